import Derived.Test.YtnheknbibdgglaaGreatDoorMS3
namespace Go.Proofs.YtnheknbibdgglaaGreatDoor.Abs
open IntKind (i64 u32 u64 u8)
open Go.RowKit
set_option linter.all false
structure bK where
 Qj:cQ
 QK:Int
def bK.C (x:bK):List V:=[.lit (.string (bs x.Qj)),.lit (.int .i64 x.QK)]
@[go_sem] theorem bK.C_eq (x:bK):bK.C x=[.lit (.string (bs x.Qj)),.lit (.int .i64 x.QK)]:=rI rfl
structure bY where
 Qa:cQ
 op_:Int
def bY.C (x:bY):List V:=[.lit (.string (bs x.Qa)),.lit (.int .i64 x.op_)]
@[go_sem] theorem bY.C_eq (x:bY):bY.C x=[.lit (.string (bs x.Qa)),.lit (.int .i64 x.op_)]:=rI rfl
structure dU where
 bF:Int
 fV:Int
 dL:cQ
 nY:Int
def dU.C (x:dU):List V:=[.lit (.int .i64 x.bF),.lit (.int .i64 x.fV),.lit (.string (bs x.dL)),.lit (.int .u32 x.nY)]
@[go_sem] theorem dU.C_eq (x:dU):dU.C x=[.lit (.int .i64 x.bF),.lit (.int .i64 x.fV),.lit (.string (bs x.dL)),.lit (.int .u32 x.nY)]:=rI rfl
structure aB where
 bF:Int
 fV:Int
 dL:cQ
 nY:Int
 aM:(List aB)
mutual
def aB.C:aB->List V
 | ⟨a0,a1,a2,a3,a4⟩=>[.lit (.int .i64 a0),.lit (.int .i64 a1),.lit (.string (bs a2)),.lit (.int .u32 a3),.list .none (aB.CL a4)]
def aB.CL:List aB->List (List V)
 | []=>[]
 | x::l=>aB.C x::aB.CL l
end
theorem aB.CL_eq (l:List aB):aB.CL l=l.map aB.C:=by
 induction l with
 | nil=>rfl
 | cons x l ih=>rw [aB.CL,ih];rfl
@[go_sem] theorem aB.C_eq (x:aB):aB.C x=[.lit (.int .i64 x.bF),.lit (.int .i64 x.fV),.lit (.string (bs x.dL)),.lit (.int .u32 x.nY),.list .none (x.aM.map aB.C)]:=by
 cases x;simp only [aB.C,aB.CL_eq]
structure aC where
 l_:(List dU)
 fU:Int
 yJ:Int
 e_:Int
 Cn:Int
def aC.C (x:aC):List V:=[.list .none (x.l_.map dU.C),.lit (.int .i64 x.fU),.lit (.int .i64 x.yJ),.lit (.int .i64 x.e_),.lit (.int .i64 x.Cn)]
@[go_sem] theorem aC.C_eq (x:aC):aC.C x=[.list .none (x.l_.map dU.C),.lit (.int .i64 x.fU),.lit (.int .i64 x.yJ),.lit (.int .i64 x.e_),.lit (.int .i64 x.Cn)]:=rI rfl
structure aJ where
 gS:cQ
 bF:Int
 gA:Int
def aJ.C (x:aJ):List V:=[.lit (.string (bs x.gS)),.lit (.int .i64 x.bF),.lit (.int .i64 x.gA)]
@[go_sem] theorem aJ.C_eq (x:aJ):aJ.C x=[.lit (.string (bs x.gS)),.lit (.int .i64 x.bF),.lit (.int .i64 x.gA)]:=rI rfl
structure aF where
 eG:cQ
 cP:Int
 N_:Int
 cZ:Int
 aM:(List aF)
 fV:Int
mutual
def aF.C:aF->List V
 | ⟨a0,a1,a2,a3,a4,a5⟩=>[.lit (.string (bs a0)),.lit (.int .i64 a1),.lit (.int .u32 a2),.lit (.int .i64 a3),.list .none (aF.CL a4),.lit (.int .i64 a5)]
def aF.CL:List aF->List (List V)
 | []=>[]
 | x::l=>aF.C x::aF.CL l
end
theorem aF.CL_eq (l:List aF):aF.CL l=l.map aF.C:=by
 induction l with
 | nil=>rfl
 | cons x l ih=>rw [aF.CL,ih];rfl
@[go_sem] theorem aF.C_eq (x:aF):aF.C x=[.lit (.string (bs x.eG)),.lit (.int .i64 x.cP),.lit (.int .u32 x.N_),.lit (.int .i64 x.cZ),.list .none (x.aM.map aF.C),.lit (.int .i64 x.fV)]:=by
 cases x;simp only [aF.C,aF.CL_eq]
structure aA where
 eG:cQ
 cZ:Int
 gI:Int
 aM:(List aF)
 bR:(List aA)
 iP:(List aA)
 fV:Int
mutual
def aA.C:aA->List V
 | ⟨a0,a1,a2,a3,a4,a5,a6⟩=>[.lit (.string (bs a0)),.lit (.int .i64 a1),.lit (.int .i64 a2),.list .none (a3.map aF.C),.list .none (aA.CL a4),.list .none (aA.CL a5),.lit (.int .i64 a6)]
def aA.CL:List aA->List (List V)
 | []=>[]
 | x::l=>aA.C x::aA.CL l
end
theorem aA.CL_eq (l:List aA):aA.CL l=l.map aA.C:=by
 induction l with
 | nil=>rfl
 | cons x l ih=>rw [aA.CL,ih];rfl
@[go_sem] theorem aA.C_eq (x:aA):aA.C x=[.lit (.string (bs x.eG)),.lit (.int .i64 x.cZ),.lit (.int .i64 x.gI),.list .none (x.aM.map aF.C),.list .none (x.bR.map aA.C),.list .none (x.iP.map aA.C),.lit (.int .i64 x.fV)]:=by
 cases x;simp only [aA.C,aA.CL_eq]
structure aP where
 gS:cQ
 eC:Bool
 bV:Int
 aQ:Int
 aO:(List aJ)
 bR:(List aA)
def aP.C (x:aP):List V:=[.lit (.string (bs x.gS)),.lit (.bool x.eC),.lit (.int .i64 x.bV),.lit (.int .i64 x.aQ),.list .none (x.aO.map aJ.C),.list .none (x.bR.map aA.C)]
@[go_sem] theorem aP.C_eq (x:aP):aP.C x=[.lit (.string (bs x.gS)),.lit (.bool x.eC),.lit (.int .i64 x.bV),.lit (.int .i64 x.aQ),.list .none (x.aO.map aJ.C),.list .none (x.bR.map aA.C)]:=rI rfl
structure aK where
 aU:(List aP)
def aK.C (x:aK):List V:=[.list .none (x.aU.map aP.C)]
@[go_sem] theorem aK.C_eq (x:aK):aK.C x=[.list .none (x.aU.map aP.C)]:=rI rfl
def aK.Z:aK:=⟨[]⟩
structure aH where
 e_:Int
 Cn:Int
structure aG where
 p_:aK
 f_:Int
 bI:List Int
 cJ:List (List Int)
 fU:Int
def aG.Z:aG:=⟨aK.Z,-1,[],[],0⟩
def pZ (F fp S C:V) (x:aG) (y:aH):List V:=[F,fp,S,C,.lit (.int .i64 x.fU),.lit (.int .i64 y.e_),.lit (.int .i64 y.Cn)]
@[go_sem] theorem ckC_eq {F fp S C:V} {x:aG} {y:aH}:pZ F fp S C x y=[F,fp,S,C,.lit (.int .i64 x.fU),.lit (.int .i64 y.e_),.lit (.int .i64 y.Cn)]:=rI rfl
def gO:List cQ:=[[45,62],[46,46],[61,61],[60,60,60],[60,60],[62,62],[60],[40],[41],[123],[125],[91],[93],[44],[59],[58],[61],[43],[45],[42],[47],[37],[38],[124],[94],[126]]
@[go_sem] theorem SX:(cA cS gO).length=26:=zd
@[go_sem] theorem RY:(cA cS gO).take 26=(cA cS gO):=zd
def cT:List cQ:=[[102,110],[101,120,112,111,114,116],[108,101,116],[118,97,114],[97,114,114],[105,102],[101,108,115,101],[102,111,114],[105,110],[114,101,116,117,114,110],[112,117,98],[117,51,50],[117,54,52]]
@[go_sem] theorem Qx:(cA cS cT).length=13:=zd
@[go_sem] theorem Ou:Cg 1 13 (cA cS cT)=cT.map cS:=rI rfl
def dM:List (List cQ):=[[[124],[],[]],[[94],[],[]],[[38],[],[]],[[61,61],[60],[]],[[60,60],[62,62],[60,60,60]],[[43],[45],[]],[[42],[47],[37]]]
def dD:List bK:=[(bK.mk [115,101,108,101,99,116] 3),(bK.mk [108,111,110,103] 1),(bK.mk [108,111] 1),(bK.mk [104,105] 1),(bK.mk [119,105,100,101] 2)]
@[go_sem] theorem Qz:(cA bK.C dD).length=10:=zd
@[go_sem] theorem Pn:(cA bK.C dD).take 10=(cA bK.C dD):=zd
@[go_sem] theorem NK:(cA bK.C dD).map V.shared=(cA bK.C dD):=rI rfl
def eY:List bY:=[(bY.mk [124] 5),(bY.mk [94] 6),(bY.mk [38] 7),(bY.mk [61,61] 8),(bY.mk [60] 9),(bY.mk [60,60] 10),(bY.mk [62,62] 11),(bY.mk [60,60,60] 12),(bY.mk [43] 13),(bY.mk [45] 14),(bY.mk [42] 15),(bY.mk [47] 16),(bY.mk [37] 17),(bY.mk [110,111,116] 3),(bY.mk [110,101,103] 4)]
@[go_sem] theorem RZ:(cA bY.C eY).length=30:=zd
@[go_sem] theorem Qy:(cA bY.C eY).take 30=(cA bY.C eY):=zd
@[go_sem] theorem Ov:(cA bY.C eY).map V.shared=(cA bY.C eY):=rI rfl
def AG (a0:Int):Option Bool:=
 (if a0 == 32 then
    some true
   else
    if a0 == 9 then
     some true
    else
     if a0 == 13 then
      some true
     else
      some (a0 == 10)).bind λy1=>
 some y1
def fY (a0:cQ) (a1:cQ):Option Bool:=
 (if decide ((a1.length:Int)<=(a0.length:Int)) then
    iE (0<=(a1.length:Int)/\(a1.length:Int)<=(a0.length:Int)) <|
    some (decide ((a0.take (a1.length:Int).toNat)=a1))
   else
    some false).bind λy1=>
 some y1
def nG (a0:cQ) (a1:cQ):Option Bool:=
 (fY a0 a1).bind λx1=>
 some x1
def nW (a0:cQ) (a1:Int):Option Int:=some (Lib.indexByte a0 a1.toNat.toUInt8)
def lM (a0:cQ) (a1:Int):Option Int:=
 (nW a0 a1).bind λx1=>
 some x1
def nE (a0:cQ) (a1:Int):Option Int:=
 (lM a0 a1).bind λx1=>
 some x1
@[go_sem] def zK (a0:cQ):Nat->Int->Option (Int ⊕ Int)
 | 0,_=>none
 | c4+1,v2=>
   if decide (v2<(a0.length:Int)) then
    (aS a0 v2).bind λx9=>
    (AG (x9.toNat:Int)).bind λx10=>
    if x10 then
     zK a0 c4 (i64.wrap (v2+1))
    else
     iE (0<=v2/\v2<=(a0.length:Int)) <|
     (nG (a0.drop v2.toNat) ([47,47]:cQ)).bind λx17=>
     if x17 then
      iE (0<=v2/\v2<=(a0.length:Int)) <|
      (nE (a0.drop v2.toNat) 10).bind λx22=>
      if decide (x22<0) then
       some (.inr (a0.length:Int))
      else
       zK a0 c4 (i64.wrap (v2+x22))
     else
      some (.inr v2)
   else
    some (.inl v2)
def Bg (n:Nat) (a0:cQ) (a1:Int):Option Int:=
 (zK a0 n a1).bind λy3=>
 y3.elim (λy3a=>
  some y3a) (λy3a=>
  some y3a)
def vT (a0:Int):Option Bool:=
 (if decide (97<=a0) then
    if decide (a0<=122) then
     some true
    else
     some (a0 == 95)
   else
    some (a0 == 95)).bind λy1=>
 some y1
def yM (a0:Int):Option Bool:=
 (if decide (48<=a0) then
    some (decide (a0<=57))
   else
    some false).bind λy1=>
 some y1
@[go_sem] def Ca (a0:cQ):Nat->Int->Option (Unit ⊕ cQ)
 | 0,_=>none
 | c4+1,v2=>
   if decide (v2<(a0.length:Int)) then
    ((aS a0 v2).bind λx10=>
      (vT (x10.toNat:Int)).bind λx11=>
      if !x11 then
       (yM (x10.toNat:Int)).bind λx18=>
       some (!x18)
      else
       some false).bind λy9=>
    if y9 then
     iE (0<=v2/\v2<=(a0.length:Int)) <|
     some (.inr (a0.take v2.toNat))
    else
     Ca a0 c4 (i64.wrap (v2+1))
   else
    some (.inl ())
def Dv (n:Nat) (a0:cQ):Option cQ:=
 (Ca a0 n 0).bind λy3=>
 y3.elim (λy3a=>
  some a0) (λy3a=>
  some y3a)
def jH (a0:cQ) (a1:cQ):Option (cQ × Bool):=
 (fY a0 a1).bind λx1=>
 if !x1 then
  some (a0,false)
 else
  iE (0<=(a1.length:Int)/\(a1.length:Int)<=(a0.length:Int)) <|
  some ((a0.drop (a1.length:Int).toNat),true)
def pN (a0:cQ) (a1:cQ):Option (cQ × Bool):=
 (jH a0 a1).bind λx1=>
 some (x1.1,x1.2)
@[go_sem] def Av (x1:(cQ × Bool)):Nat->Int->Int->Option (Int ⊕ (Int × Bool))
 | 0,_,_=>none
 | c8+1,v5,v6=>
   if decide (v6<(x1.1.length:Int)) then
    iE ((0:Int)<=16/\16<=(([48,49,50,51,52,53,54,55,56,57,97,98,99,100,101,102]:cQ).length:Int)) <|
    (aS x1.1 v6).bind λx13=>
    (nE (([48,49,50,51,52,53,54,55,56,57,97,98,99,100,101,102]:cQ).take (16:Int).toNat) (x13.toNat:Int)).bind λx14=>
    (if decide (x14<0) then
       some true
      else
       some (decide (4294967295<(i64.wrap ((i64.wrap (v5*16))+x14))))).bind λy22=>
    if y22 then
     some (.inr (0,false))
    else
     Av x1 c8 (i64.wrap ((i64.wrap (v5*16))+x14)) (i64.wrap (v6+1))
   else
    some (.inl v5)
@[go_sem] def Au (a0:cQ):Nat->Int->Int->Option (Int ⊕ (Int × Bool))
 | 0,_,_=>none
 | c32+1,v29,v30=>
   if decide (v30<(a0.length:Int)) then
    iE ((0:Int)<=10/\10<=(([48,49,50,51,52,53,54,55,56,57,97,98,99,100,101,102]:cQ).length:Int)) <|
    (aS a0 v30).bind λx37=>
    (nE (([48,49,50,51,52,53,54,55,56,57,97,98,99,100,101,102]:cQ).take (10:Int).toNat) (x37.toNat:Int)).bind λx38=>
    (if decide (x38<0) then
       some true
      else
       some (decide (4294967295<(i64.wrap ((i64.wrap (v29*10))+x38))))).bind λy46=>
    if y46 then
     some (.inr (0,false))
    else
     Au a0 c32 (i64.wrap ((i64.wrap (v29*10))+x38)) (i64.wrap (v30+1))
   else
    some (.inl v29)
def AF (n:Nat) (a0:cQ):Option (Int × Bool):=
 (pN a0 ([48,120]:cQ)).bind λx1=>
 if x1.2=true then
  (Av x1 n 0 0).bind λy7=>
  y7.elim (λy7a=>
   some ((u32.wrap y7a),(decide (x1.1 ≠ ([]:cQ))))) (λy7a=>
   some y7a)
 else
  (Au a0 n 0 0).bind λy31=>
  y31.elim (λy31a=>
   some ((u32.wrap y31a),(decide (a0 ≠ ([]:cQ))))) (λy31a=>
   some y31a)
@[go_sem] def Cb (a0:cQ):Nat->Int->Option (Unit ⊕ cQ)
 | 0,_=>none
 | c4+1,v2=>
   if decide (v2<26) then
    (aS gO v2).bind λx9=>
    (nG a0 x9).bind λx17=>
    if x17 then
     some (.inr x9)
    else
     Cb a0 c4 (i64.wrap (v2+1))
   else
    some (.inl ())
def Dw (n:Nat) (a0:cQ):Option cQ:=
 (Cb a0 n 0).bind λy3=>
 y3.elim (λy3a=>
  some ([]:cQ)) (λy3a=>
  some y3a)
def Dx (n:Nat) (a0:cQ) (a1:Int):Option (dU × Int):=
 iE (0<=a1/\a1<=(a0.length:Int)) <|
 (Dv n (a0.drop a1.toNat)).bind λx2=>
 (aS a0 a1).bind λx7=>
 (vT (x7.toNat:Int)).bind λx8=>
 if x8 then
  if decide (32<(x2.length:Int)) then
   some ((dU.mk 0 0 [] 0),102)
  else
   some ((dU.mk 1 a1 x2 0),0)
 else
  (yM (x7.toNat:Int)).bind λx16=>
  if x16 then
   (AF n x2).bind λx19=>
   if !x19.2 then
    some ((dU.mk 0 0 [] 0),101)
   else
    some ((dU.mk 2 a1 x2 x19.1),0)
  else
   iE (0<=a1/\a1<=(a0.length:Int)) <|
   (Dw n (a0.drop a1.toNat)).bind λx22=>
   if decide (x22=([]:cQ)) then
    some ((dU.mk 0 0 [] 0),100)
   else
    some ((dU.mk 3 a1 x22 0),0)
@[go_sem] def yW (n:Nat) (a0:cQ):Nat->(List dU)->Int->Option ((List dU) ⊕ ((List dU) × Int × Int))
 | 0,_,_=>none
 | c8+1,v5,v6=>
   if decide (v6<(a0.length:Int)) then
    (Dx n a0 v6).bind λx13=>
    if x13.2 != 0 then
     some (.inr ([],x13.2,v6))
    else
     iE (v5.length+[x13.1].length<=1073741824) <|
     (Bg n a0 (i64.wrap (v6+(x13.1.dL.length:Int)))).bind λx20=>
     yW n a0 c8 (v5++[x13.1]) x20
   else
    some (.inl v5)
def yL (n:Nat) (a0:cQ):Option ((List dU) × Int × Int):=
 if decide (65536<(a0.length:Int)) then
  some ([],161,0)
 else
  (Bg n a0 0).bind λx2=>
  (yW n a0 n [] x2).bind λy7=>
  y7.elim (λy7a=>
   iE (y7a.length+[(dU.mk 4 (a0.length:Int) [] 0)].length<=1073741824) <|
   some ((y7a++[(dU.mk 4 (a0.length:Int) [] 0)]),0,0)) (λy7a=>
   some y7a)
def dV (a0:aC):Option dU:=
 (aS a0.l_ a0.fU).bind λx2=>
 some x2
def iM (a0:aC) (a1:Int):Option aC:=
 if a0.e_ == 0 then
  (dV a0).bind λx2=>
  some ({ a0 with e_:=a1,Cn:=x2.fV }:aC)
 else
  some a0
def fK (a0:aC) (a1:Int):Option (aB × aC):=
 if decide (16384<(i64.wrap (a0.yJ+1))) then
  (iM ({ a0 with yJ:=(i64.wrap (a0.yJ+1)) }:aC) 136).bind λx3=>
  (dV x3).bind λx5=>
  some ((aB.mk a1 x5.fV [] 0 []),x3)
 else
  (dV ({ a0 with yJ:=(i64.wrap (a0.yJ+1)) }:aC)).bind λx7=>
  some ((aB.mk a1 x7.fV [] 0 []),({ a0 with yJ:=(i64.wrap (a0.yJ+1)) }:aC))
@[go_sem] def kV (a0:(List cQ)) (a1:cQ):Nat->Int->Option (Unit ⊕ Int)
 | 0,_=>none
 | c4+1,v2=>
   if decide (v2<(a0.length:Int)) then
    (aS a0 v2).bind λx9=>
    if decide (a1=x9) then
     some (.inr v2)
    else
     kV a0 a1 c4 (i64.wrap (v2+1))
   else
    some (.inl ())
def jW (n:Nat) (a0:(List cQ)) (a1:cQ):Option Int:=
 (kV a0 a1 n 0).bind λy3=>
 y3.elim (λy3a=>
  some (-1:Int)) (λy3a=>
  some y3a)
def iY (n:Nat) (a0:(List cQ)) (a1:cQ):Option Bool:=
 (jW n a0 a1).bind λx1=>
 some (decide (0<=x1))
def vS (n:Nat) (a0:cQ):Option Bool:=
 (iY n cT a0).bind λx1=>
 some x1
def jK (n:Nat) (a0:aC) (a1:cQ):Option Bool:=
 (dV a0).bind λx1=>
 (if a0.e_ == 0 then
    if decide (x1.dL=a1) then
     if x1.bF == 3 then
      some true
     else
      if x1.bF == 1 then
       (vS n a1).bind λx9=>
       some x9
      else
       some false
    else
     some false
   else
    some false).bind λy4=>
 some y4
def bW (n:Nat) (a0:aC) (a1:cQ):Option (Bool × aC):=
 (jK n a0 a1).bind λx1=>
 if !x1 then
  some (false,a0)
 else
  some (true,({ a0 with fU:=(i64.wrap (a0.fU+1)) }:aC))
def bS (n:Nat) (a0:aC) (a1:cQ):Option aC:=
 (bW n a0 a1).bind λx1=>
 if !x1.1 then
  (iM x1.2 110).bind λx4=>
  some x4
 else
  some x1.2
def eP (n:Nat) (a0:aC):Option (cQ × aC):=
 (dV a0).bind λx1=>
 (if a0.e_ != 0 then
    some true
   else
    if x1.bF != 1 then
     some true
    else
     (vS n x1.dL).bind λx7=>
     some x7).bind λy4=>
 if y4 then
  (iM a0 110).bind λx13=>
  some (([]:cQ),x13)
 else
  some (x1.dL,({ a0 with fU:=(i64.wrap (a0.fU+1)) }:aC))
def kG (a0:aC):Option (Int × aC):=
 (dV a0).bind λx1=>
 (if a0.e_ != 0 then
    some true
   else
    some (x1.bF != 2)).bind λy4=>
 if y4 then
  (iM a0 110).bind λx10=>
  some (0,x10)
 else
  some (x1.nY,({ a0 with fU:=(i64.wrap (a0.fU+1)) }:aC))
def lV (n:Nat) (a0:aC):Option (Int × aC):=
 (bS n a0 ([91]:cQ)).bind λx1=>
 (kG x1).bind λx3=>
 (bS n x3.2 ([93]:cQ)).bind λx5=>
 some (x3.1,x5)
def kN:List cQ:=[([112,117,98]:cQ),([117,51,50]:cQ),([117,54,52]:cQ)]
@[go_sem] def pP (n:Nat):Nat->Int->aC->aB->aB->Option ((aC × aB × aB) ⊕ (aB × aC))
 | 0,_,_,_,_=>none
 | c15+1,v10,v11,v12,v13=>
   if decide (v10<3) then
    (aS kN v10).bind λx20=>
    (bW n v11 x20).bind λx29=>
    if x29.1=true then
     some (.inr (({ v13 with nY:=(u32.wrap (i64.wrap (1+v10))) }:aB),x29.2))
    else
     pP n c15 (i64.wrap (v10+1)) x29.2 v12 v13
   else
    some (.inl (v11,v12,v13))
def mR (n:Nat) (a0:aC):Option (aB × aC):=
 (fK a0 3).bind λx2=>
 (eP n x2.2).bind λx5=>
 (bS n x5.2 ([58]:cQ)).bind λx7=>
 (pP n n 0 x7 (aB.mk 0 0 [] 0 []) ({ x2.1 with dL:=x5.1 }:aB)).bind λy14=>
 y14.elim (λy14a=>
  (fK y14a.1 14).bind λx37=>
  (lV n x37.2).bind λx40=>
  some (({ y14a.2.2 with nY:=4,aM:=[({ x37.1 with nY:=x40.1 }:aB)] }:aB),x40.2)) (λy14a=>
  some y14a)
@[go_sem] def lZ (n:Nat):Nat->(List aB)->aC->Option ((List aB) × aC)
 | 0,_,_=>none
 | c11+1,v8,v9=>
   if v9.e_ == 0 then
    (mR n v9).bind λx16=>
    iE (v8.length+[x16.1].length<=1073741824) <|
    (bW n x16.2 ([44]:cQ)).bind λx21=>
    if !x21.1 then
     some ((v8++[x16.1]),x21.2)
    else
     lZ n c11 (v8++[x16.1]) x21.2
   else
    some (v8,v9)
def gL (n:Nat) (a0:aC):Option ((List aB) × aC):=
 (bS n a0 ([40]:cQ)).bind λx1=>
 (bW n x1 ([41]:cQ)).bind λx3=>
 if x3.1=true then
  some ([],x3.2)
 else
  ((lZ n n [] x3.2).bind λy10=>
    some (y10.1,y10.2)).bind λy6=>
  (bS n y6.2 ([41]:cQ)).bind λx27=>
  some (y6.1,x27)
def lX (a0:aC) (a1:Int):Option aC:=
 if decide (64<a1) then
  (iM a0 111).bind λx2=>
  some x2
 else
  some a0
@[go_sem] def lG (n:Nat) (x1:(List cQ)) (a0:aC):Nat->Int->Option (Unit ⊕ cQ)
 | 0,_=>none
 | c15+1,v13=>
   if decide (v13<3) then
    (aS x1 v13).bind λx20=>
    (if decide (x20 ≠ ([]:cQ)) then
       (jK n a0 x20).bind λx31=>
       some x31
      else
       some false).bind λy29=>
    if y29 then
     some (.inr x20)
    else
     lG n x1 a0 c15 (i64.wrap (v13+1))
   else
    some (.inl ())
def lW (n:Nat) (a0:aC) (a1:Int):Option cQ:=
 (aS dM a1).bind λx1=>
 (lG n x1 a0 n 0).bind λy14=>
 y14.elim (λy14a=>
  some ([]:cQ)) (λy14a=>
  some y14a)
@[go_sem] def gJ (fN:aC->Int->Option (aB × aC)) (n:Nat) (a1:Int):Nat->(List aB)->aC->Option ((List aB) × aC)
 | 0,_,_=>none
 | c11+1,v8,v9=>
   if v9.e_ == 0 then
    (fN v9 a1).bind λx16=>
    iE (v8.length+[x16.1].length<=1073741824) <|
    (bW n x16.2 ([44]:cQ)).bind λx21=>
    if !x21.1 then
     some ((v8++[x16.1]),x21.2)
    else
     gJ fN n a1 c11 (v8++[x16.1]) x21.2
   else
    some (v8,v9)
def iT (fN:aC->Int->Option (aB × aC)) (n:Nat) (a0:aC) (a1:Int):Option ((List aB) × aC):=
 (bS n a0 ([40]:cQ)).bind λx1=>
 (bW n x1 ([41]:cQ)).bind λx3=>
 if x3.1=true then
  some ([],x3.2)
 else
  ((gJ fN n a1 n [] x3.2).bind λy10=>
    some (y10.1,y10.2)).bind λy6=>
  (bS n y6.2 ([41]:cQ)).bind λx27=>
  some (y6.1,x27)
def oP (dH:aC->Int->Int->Option (aB × aC)) (n:Nat) (a0:aC) (a1:Int):Option (aB × aC):=
 (dH a0 0 a1).bind λx2=>
 some (x2.1,x2.2)
@[go_sem] def pR (dH:aC->Int->Int->Option (aB × aC)) (n:Nat) (a1:Int) (a2:Int):Nat->cQ->aC->aB->Option (aC × aB)
 | 0,_,_,_=>none
 | c15+1,v11,v12,v13=>
   if decide (v11 ≠ ([]:cQ)) then
    (fK v12 19).bind λx20=>
    (bS n x20.2 v11).bind λx23=>
    (dH x23 (i64.wrap (a1+1)) a2).bind λx25=>
    if a1 == 3 then
     some (x25.2,({ x20.1 with dL:=v11,aM:=[v13,x25.1] }:aB))
    else
     (lW n x25.2 a1).bind λx28=>
     pR dH n a1 a2 c15 x28 x25.2 ({ x20.1 with dL:=v11,aM:=[v13,x25.1] }:aB)
   else
    some (v12,v13)
def nQ (dF:aC->Int->Option (aB × aC)) (dH:aC->Int->Int->Option (aB × aC)) (n:Nat) (a0:aC) (a1:Int) (a2:Int):Option (aB × aC):=
 if a1 == 7 then
  (dF a0 a2).bind λx3=>
  some (x3.1,x3.2)
 else
  (dH a0 (i64.wrap (a1+1)) a2).bind λx5=>
  (lW n x5.2 a1).bind λx8=>
  (pR dH n a1 a2 n x8 x5.2 x5.1).bind λy14=>
  some (y14.2,y14.1)
def iO:List cQ:=[([126]:cQ),([45]:cQ)]
@[go_sem] def oI (dF:aC->Int->Option (aB × aC)) (n:Nat) (a1:Int):Nat->Int->aC->aB->aB->Option ((aC × aB × aB) ⊕ (aB × aC))
 | 0,_,_,_,_=>none
 | c23+1,v18,v19,v20,v21=>
   if decide (v18<2) then
    (aS iO v18).bind λx28=>
    (bW n v19 x28).bind λx37=>
    if x37.1=true then
     (dF x37.2 (i64.wrap (a1+1))).bind λx40=>
     some (.inr (({ v20 with bF:=18,dL:=x28,aM:=[x40.1] }:aB),x40.2))
    else
     oI dF n a1 c23 (i64.wrap (v18+1)) x37.2 v20 v21
   else
    some (.inl (v19,v20,v21))
def mG (eD:aC->Int->Option (aB × aC)) (dF:aC->Int->Option (aB × aC)) (iI:aC->Int->Option ((List aB) × aC)) (n:Nat) (a0:aC) (a1:Int):Option (aB × aC):=
 (lX a0 a1).bind λx4=>
 (bW n x4 ([40]:cQ)).bind λx6=>
 if x6.1=true then
  (eD x6.2 (i64.wrap (a1+1))).bind λx9=>
  (bS n x9.2 ([41]:cQ)).bind λx12=>
  some (x9.1,x12)
 else
  (fK x6.2 15).bind λx14=>
  (oI dF n a1 n 0 x14.2 x14.1 (aB.mk 0 0 [] 0 [])).bind λy22=>
  y22.elim (λy22a=>
   (if y22a.1.e_ == 0 then
      (dV y22a.1).bind λx72=>
      some (x72.bF == 2)
     else
      some false).bind λy70=>
   if y70 then
    (kG y22a.1).bind λx78=>
    some (({ y22a.2.1 with bF:=14,nY:=x78.1 }:aB),x78.2)
   else
    (eP n y22a.1).bind λx80=>
    ((jK n x80.2 ([40]:cQ)).bind λx83=>
      if x83 then
       (iI x80.2 a1).bind λx86=>
       some (x86.2,({ y22a.2.1 with bF:=17,dL:=x80.1,aM:=x86.1 }:aB))
      else
       (bW n x80.2 ([91]:cQ)).bind λx88=>
       if x88.1=true then
        (eD x88.2 (i64.wrap (a1+1))).bind λx91=>
        (bS n x91.2 ([93]:cQ)).bind λx93=>
        some (x93,({ y22a.2.1 with bF:=16,dL:=x80.1,aM:=[x91.1] }:aB))
       else
        some (x88.2,({ y22a.2.1 with dL:=x80.1 }:aB))).bind λy82=>
    some (y82.2,y82.1)) (λy22a=>
   some y22a)
def kZ (eD:aC->Int->Option (aB × aC)) (n:Nat) (a0:aC) (a1:Int):Option (aB × aC):=
 (eD a0 (i64.wrap (a1+1))).bind λx2=>
 some (x2.1,x2.2)
def bD:Nat->(aC->Int->Option ((List aB) × aC)) × (aC->Int->Option (aB × aC)) × (aC->Int->Int->Option (aB × aC)) × (aC->Int->Option (aB × aC)) × (aC->Int->Option (aB × aC))
 | 0=>(λ_ _=>none,λ_ _=>none,λ_ _ _=>none,λ_ _=>none,λ_ _=>none)
 | n+1=>(iT (bD n).2.2.2.2 n,oP (bD n).2.2.1 n,nQ (bD n).2.2.2.1 (bD n).2.2.1 n,mG (bD n).2.1 (bD n).2.2.2.1 (bD n).1 n,kZ (bD n).2.1 n)
def yG (n:Nat):aC->Int->Option ((List aB) × aC):=(bD n).1
def fL (n:Nat):aC->Int->Option (aB × aC):=(bD n).2.1
def Fg (n:Nat):aC->Int->Int->Option (aB × aC):=(bD n).2.2.1
def DW (n:Nat):aC->Int->Option (aB × aC):=(bD n).2.2.2.1
def Cv (n:Nat):aC->Int->Option (aB × aC):=(bD n).2.2.2.2
def lA (n:Nat) (a0:aC) (a1:aB) (a2:Int):Option (aB × aC):=
 (eP n a0).bind λx3=>
 (bS n x3.2 ([61]:cQ)).bind λx5=>
 (fL n x5 a2).bind λx7=>
 (bS n x7.2 ([59]:cQ)).bind λx9=>
 some (({ a1 with dL:=x3.1,aM:=[x7.1] }:aB),x9)
def nO (n:Nat) (a0:aC) (a1:Int):Option (aB × aC):=
 (fL n a0 (i64.wrap (a1+2))).bind λx2=>
 some (x2.1,x2.2)
@[go_sem] def gW (n:Nat) (a1:Int):Nat->(List aB)->aC->Option ((List aB) × aC)
 | 0,_,_=>none
 | c11+1,v8,v9=>
   if v9.e_ == 0 then
    (nO n v9 a1).bind λx16=>
    iE (v8.length+[x16.1].length<=1073741824) <|
    (bW n x16.2 ([44]:cQ)).bind λx21=>
    if !x21.1 then
     some ((v8++[x16.1]),x21.2)
    else
     gW n a1 c11 (v8++[x16.1]) x21.2
   else
    some (v8,v9)
def iS (n:Nat) (a0:aC) (a1:Int):Option ((List aB) × aC):=
 (bS n a0 ([40]:cQ)).bind λx1=>
 (bW n x1 ([41]:cQ)).bind λx3=>
 if x3.1=true then
  some ([],x3.2)
 else
  ((gW n a1 n [] x3.2).bind λy10=>
    some (y10.1,y10.2)).bind λy6=>
  (bS n y6.2 ([41]:cQ)).bind λx27=>
  some (y6.1,x27)
def mQ (n:Nat) (a0:aC) (a1:aB) (a2:Int):Option (aB × aC):=
 (eP n a0).bind λx5=>
 ((jK n x5.2 ([40]:cQ)).bind λx8=>
   if x8 then
    (iS n x5.2 a2).bind λx11=>
    some (x11.2,({ a1 with bF:=10,dL:=x5.1,aM:=x11.1 }:aB))
   else
    (bW n x5.2 ([91]:cQ)).bind λx13=>
    if x13.1=true then
     (fL n x13.2 (i64.wrap (a2+2))).bind λx16=>
     (bS n x16.2 ([93]:cQ)).bind λx18=>
     (bS n x18 ([61]:cQ)).bind λx20=>
     (fL n x20 (i64.wrap (a2+1))).bind λx22=>
     iE ([x16.1].length+[x22.1].length<=1073741824) <|
     some (x22.2,({ a1 with bF:=9,dL:=x5.1,aM:=([x16.1]++[x22.1]) }:aB))
    else
     (bS n x13.2 ([61]:cQ)).bind λx25=>
     (fL n x25 (i64.wrap (a2+1))).bind λx27=>
     some (x27.2,({ a1 with dL:=x5.1,aM:=[x27.1] }:aB))).bind λy7=>
 (bS n y7.1 ([59]:cQ)).bind λx32=>
 some (y7.2,x32)
@[go_sem] def mT (fM:aC->Int->Option (aB × aC)) (n:Nat) (a1:Int):Nat->aC->aB->Option (aC × aB)
 | 0,_,_=>none
 | c13+1,v10,v11=>
   (if v10.e_ == 0 then
      (jK n v10 ([125]:cQ)).bind λx19=>
      some (!x19)
     else
      some false).bind λy17=>
   if y17 then
    (fM v10 a1).bind λx25=>
    iE (v11.aM.length+[x25.1].length<=1073741824) <|
    mT fM n a1 c13 x25.2 ({ v11 with aM:=(v11.aM++[x25.1]) }:aB)
   else
    some (v10,v11)
def nR (fM:aC->Int->Option (aB × aC)) (n:Nat) (a0:aC) (a1:Int):Option (aB × aC):=
 (lX a0 a1).bind λx2=>
 (fK x2 4).bind λx4=>
 (bS n x4.2 ([123]:cQ)).bind λx7=>
 (mT fM n a1 n x7 x4.1).bind λy12=>
 (bS n y12.1 ([125]:cQ)).bind λx32=>
 some (y12.2,x32)
def kY (lP:aC->aB->Int->Option (aB × aC)) (mP:aC->aB->Int->Option (aB × aC)) (n:Nat) (a0:aC) (a1:Int):Option (aB × aC):=
 (fK a0 8).bind λx2=>
 ((bW n x2.2 ([108,101,116]:cQ)).bind λx6=>
   if x6.1=true then
    (lA n x6.2 ({ x2.1 with bF:=5 }:aB) (i64.wrap (a1+1))).bind λx9=>
    some (.inr (x9.1,x9.2))
   else
    (bW n x6.2 ([118,97,114]:cQ)).bind λx11=>
    if x11.1=true then
     (lA n x11.2 ({ x2.1 with bF:=6 }:aB) (i64.wrap (a1+1))).bind λx14=>
     some (.inr (x14.1,x14.2))
    else
     (bW n x11.2 ([97,114,114]:cQ)).bind λx16=>
     if x16.1=true then
      (eP n x16.2).bind λx19=>
      (lV n x19.2).bind λx21=>
      some (.inl (x21.2,({ x2.1 with bF:=7,dL:=x19.1,nY:=x21.1 }:aB)))
     else
      (bW n x16.2 ([114,101,116,117,114,110]:cQ)).bind λx23=>
      if x23.1=true then
       (fL n x23.2 (i64.wrap (a1+1))).bind λx26=>
       some (.inl (x26.2,({ x2.1 with bF:=13,aM:=[x26.1] }:aB)))
      else
       (bW n x23.2 ([105,102]:cQ)).bind λx28=>
       if x28.1=true then
        (lP x28.2 x2.1 a1).bind λx31=>
        some (.inr (x31.1,x31.2))
       else
        (bW n x28.2 ([102,111,114]:cQ)).bind λx33=>
        if x33.1=true then
         (mP x33.2 x2.1 a1).bind λx36=>
         some (.inr (x36.1,x36.2))
        else
         (mQ n x33.2 x2.1 a1).bind λx38=>
         some (.inr (x38.1,x38.2)):Option ((aC × aB) ⊕ (aB × aC))).bind λy5=>
 y5.elim (λy5a=>
  (bS n y5a.1 ([59]:cQ)).bind λx43=>
  some (y5a.2,x43)) (λy5a=>
  some y5a)
def mS (dX:aC->Int->Option (aB × aC)) (n:Nat) (a0:aC) (a1:aB) (a2:Int):Option (aB × aC):=
 (fL n a0 (i64.wrap (a2+1))).bind λx3=>
 (dX x3.2 (i64.wrap (a2+1))).bind λx5=>
 iE ([x3.1].length+[x5.1].length<=1073741824) <|
 (bW n x5.2 ([101,108,115,101]:cQ)).bind λx8=>
 if x8.1=true then
  (dX x8.2 (i64.wrap (a2+1))).bind λx11=>
  iE (([x3.1]++[x5.1]).length+[x11.1].length<=1073741824) <|
  some (({ a1 with bF:=11,aM:=(([x3.1]++[x5.1])++[x11.1]) }:aB),x11.2)
 else
  some (({ a1 with bF:=11,aM:=([x3.1]++[x5.1]) }:aB),x8.2)
def oO (dX:aC->Int->Option (aB × aC)) (n:Nat) (a0:aC) (a1:aB) (a2:Int):Option (aB × aC):=
 (eP n a0).bind λx3=>
 (bS n x3.2 ([105,110]:cQ)).bind λx5=>
 (fL n x5 (i64.wrap (a2+1))).bind λx7=>
 (bS n x7.2 ([46,46]:cQ)).bind λx9=>
 (fL n x9 (i64.wrap (a2+1))).bind λx11=>
 iE ([x7.1].length+[x11.1].length<=1073741824) <|
 (dX x11.2 (i64.wrap (a2+1))).bind λx14=>
 iE (([x7.1]++[x11.1]).length+[x14.1].length<=1073741824) <|
 some (({ a1 with bF:=12,dL:=x3.1,aM:=(([x7.1]++[x11.1])++[x14.1]) }:aB),x14.2)
def dQ:Nat->(aC->Int->Option (aB × aC)) × (aC->Int->Option (aB × aC)) × (aC->aB->Int->Option (aB × aC)) × (aC->aB->Int->Option (aB × aC))
 | 0=>(λ_ _=>none,λ_ _=>none,λ_ _ _=>none,λ_ _ _=>none)
 | n+1=>(nR (dQ n).2.1 n,kY (dQ n).2.2.1 (dQ n).2.2.2 n,mS (dQ n).1 n,oO (dQ n).1 n)
def eS (n:Nat):aC->Int->Option (aB × aC):=(dQ n).1
def Ct (n:Nat):aC->Int->Option (aB × aC):=(dQ n).2.1
def EH (n:Nat):aC->aB->Int->Option (aB × aC):=(dQ n).2.2.1
def Gl (n:Nat):aC->aB->Int->Option (aB × aC):=(dQ n).2.2.2
def kO (n:Nat) (a0:aC):Option (aB × aC):=
 (fK a0 2).bind λx2=>
 (bW n x2.2 ([101,120,112,111,114,116]:cQ)).bind λx5=>
 if x5.1=true then
  (bS n x5.2 ([102,110]:cQ)).bind λx8=>
  (eP n x8).bind λx10=>
  (gL n x10.2).bind λx12=>
  (bW n x12.2 ([45,62]:cQ)).bind λx14=>
  if x14.1=true then
   (bW n x14.2 ([117,51,50]:cQ)).bind λx17=>
   if x17.1=true then
    (eS n x17.2 1).bind λx20=>
    iE (x12.1.length+[x20.1].length<=1073741824) <|
    some (({ x2.1 with dL:=x10.1,nY:=(orK .u32 1 2),aM:=(x12.1++[x20.1]) }:aB),x20.2)
   else
    (bS n x17.2 ([117,54,52]:cQ)).bind λx25=>
    (eS n x25 1).bind λx27=>
    iE (x12.1.length+[x27.1].length<=1073741824) <|
    some (({ x2.1 with dL:=x10.1,nY:=(orK .u32 1 4),aM:=(x12.1++[x27.1]) }:aB),x27.2)
  else
   (eS n x14.2 1).bind λx32=>
   iE (x12.1.length+[x32.1].length<=1073741824) <|
   some (({ x2.1 with dL:=x10.1,nY:=1,aM:=(x12.1++[x32.1]) }:aB),x32.2)
 else
  (bS n x5.2 ([102,110]:cQ)).bind λx37=>
  (eP n x37).bind λx39=>
  (gL n x39.2).bind λx41=>
  (bW n x41.2 ([45,62]:cQ)).bind λx43=>
  if x43.1=true then
   (bW n x43.2 ([117,51,50]:cQ)).bind λx46=>
   if x46.1=true then
    (eS n x46.2 1).bind λx49=>
    iE (x41.1.length+[x49.1].length<=1073741824) <|
    some (({ x2.1 with dL:=x39.1,nY:=(orK .u32 x2.1.nY 2),aM:=(x41.1++[x49.1]) }:aB),x49.2)
   else
    (bS n x46.2 ([117,54,52]:cQ)).bind λx54=>
    (eS n x54 1).bind λx56=>
    iE (x41.1.length+[x56.1].length<=1073741824) <|
    some (({ x2.1 with dL:=x39.1,nY:=(orK .u32 x2.1.nY 4),aM:=(x41.1++[x56.1]) }:aB),x56.2)
  else
   (eS n x43.2 1).bind λx61=>
   iE (x41.1.length+[x61.1].length<=1073741824) <|
   some (({ x2.1 with dL:=x39.1,aM:=(x41.1++[x61.1]) }:aB),x61.2)
@[go_sem] def uE (n:Nat):Nat->aC->aB->Option (aC × aB)
 | 0,_,_=>none
 | c13+1,v10,v11=>
   (if v10.e_ == 0 then
      (dV v10).bind λx19=>
      some (x19.bF != 4)
     else
      some false).bind λy17=>
   if y17 then
    (kO n v10).bind λx25=>
    iE (v11.aM.length+[x25.1].length<=1073741824) <|
    uE n c13 x25.2 ({ v11 with aM:=(v11.aM++[x25.1]) }:aB)
   else
    some (v10,v11)
def zE (n:Nat) (a0:cQ):Option (aB × Int × Int):=
 (yL n a0).bind λx2=>
 if x2.2.1 != 0 then
  some ((aB.mk 0 0 [] 0 []),x2.2.1,x2.2.2)
 else
  (fK (aC.mk x2.1 0 0 0 0) 1).bind λx6=>
  (uE n n x6.2 x6.1).bind λy12=>
  if y12.1.e_ != 0 then
   some ((aB.mk 0 0 [] 0 []),y12.1.e_,y12.1.Cn)
  else
   some (y12.2,0,0)
def pG (a0:aG) (a1:aH) (a2:Int) (a3:Int):Option aH:=
 if a1.e_ == 0 then
  some (aH.mk a2 a3)
 else
  some a1
def aT (a0:aG) (a1:aH) (a2:Bool) (a3:Int) (a4:Int):Option aH:=
 if !a2 then
  (pG a0 a1 a3 a4).bind λx2=>
  some x2
 else
  some a1
def zQ (a0:aP) (a1:cQ):Option Bool:=
 some (decide (a0.gS=a1))
@[go_sem] def cW (a0:(List aP)) (a1:cQ):Nat->Int->Option (Unit ⊕ Int)
 | 0,_=>none
 | c4+1,v2=>
   if decide (v2<(a0.length:Int)) then
    (aS a0 v2).bind λx9=>
    (zQ x9 a1).bind λx10=>
    if x10 then
     some (.inr v2)
    else
     cW a0 a1 c4 (i64.wrap (v2+1))
   else
    some (.inl ())
def fR (n:Nat) (a0:(List aP)) (a1:cQ):Option Int:=
 (cW a0 a1 n 0).bind λy3=>
 y3.elim (λy3a=>
  some (-1:Int)) (λy3a=>
  some y3a)
def oU (n:Nat) (a0:aK) (a1:cQ):Option (Int × Bool):=
 (fR n a0.aU a1).bind λx3=>
 some ((max x3 0),(decide (0<=x3)))
@[go_sem] def vI (a0:cQ):Nat->Int->Option (Unit ⊕ Int)
 | 0,_=>none
 | c4+1,v2=>
   if decide (v2<5) then
    (aS dD v2).bind λx9=>
    if decide (x9.Qj=a0) then
     some (.inr x9.QK)
    else
     vI a0 c4 (i64.wrap (v2+1))
   else
    some (.inl ())
def uJ (n:Nat) (a0:cQ):Option Int:=
 (vI a0 n 0).bind λy3=>
 y3.elim (λy3a=>
  some 0) (λy3a=>
  some y3a)
def xL (a0:Int):Option Int:=
 if (yQ .u32 a0 2) != 0 then
  some 2
 else
  if (yQ .u32 a0 4) != 0 then
   some 3
  else
   some 0
@[go_sem] def kE (n:Nat) (a2:aB):Nat->Int->aG->aH->Option (aG × aH)
 | 0,_,_,_=>none
 | c9+1,v5,v6,v7=>
   if decide (v5<(a2.aM.length:Int)) then
    (aS a2.aM v5).bind λx14=>
    (oU n v6.p_ x14.dL).bind λx20=>
    (if !x20.2 then
       (uJ n x14.dL).bind λx25=>
       (aT v6 v7 (x25 == 0) 131 x14.fV).bind λx26=>
       some x26
      else
       (aT v6 v7 false 131 x14.fV).bind λx29=>
       some x29).bind λy23=>
    (xL x14.nY).bind λx34=>
    iE (v6.f_<0) <|
    iE (v6.p_.aU.length+1<=1073741824) <|
    kE n a2 c9 (i64.wrap (v5+1)) ({ v6 with p_:=⟨(v6.p_.aU++[(aP.mk x14.dL ((yQ .u32 x14.nY 1) != 0) x34 0 [] [])])⟩ }:aG) y23
   else
    some (v6,v7)
def oQ (n:Nat) (a0:aG) (a1:aH) (a2:aB):Option (aG × aH):=
 (aT a0 a1 (decide ((a2.aM.length:Int)<=64)) 136 a2.fV).bind λx2=>
 (kE n a2 n 0 a0 x2).bind λy8=>
 iE (0<=(a2.aM.length:Int)/\(a2.aM.length:Int)<=1073741824) <|
 some (({ y8.1 with cJ:=(List.replicate a2.aM.length []) }:aG),y8.2)
@[go_sem] def iW (x1:aP):Nat->Int->aG->Option aG
 | 0,_,_=>none
 | c31+1,v28,v29=>
   if decide (v28<x1.aQ) then
    iE (v29.bI.length+1<=1073741824) <|
    iW x1 c31 (i64.wrap (v28+1)) ({ v29 with bI:=(v29.bI++[v28]) }:aG)
   else
    some v29
def mD (n:Nat) (a0:aG) (a1:aH) (a2:Int):Option (aG × aH):=
 (aS a0.p_.aU a2).bind λx1=>
 (iW x1 n 0 ({ a0 with f_:=a2,bI:=[],fU:=a2 }:aG)).bind λy30=>
 some (y30,a1)
def wH (a0:Int):Option Bool:=
 (if decide (1<=a0) then
    if decide (a0<=255) then
     some true
    else
     if decide (255<a0) then
      if decide (a0<=1024) then
       some ((a0.tmod 4) == 0)
      else
       some false
     else
      some false
   else
    if decide (255<a0) then
     if decide (a0<=1024) then
      some ((a0.tmod 4) == 0)
     else
      some false
    else
     some false).bind λy1=>
 some y1
@[go_sem] def kR (a0:aG) (a2:cQ):Nat->Int->Option (Unit ⊕ Int)
 | 0,_=>none
 | c5+1,v3=>
   if decide (0<=v3) then
    (aS a0.p_.aU a0.f_).bind λx10=>
    (aS a0.bI v3).bind λx13=>
    (aS x10.aO x13).bind λx14=>
    if decide (x14.gS=a2) then
     some (.inr x13)
    else
     kR a0 a2 c5 (i64.wrap (v3 - 1))
   else
    some (.inl ())
def lC (n:Nat) (a0:aG) (a1:aH) (a2:cQ):Option Int:=
 (kR a0 a2 n (i64.wrap ((a0.bI.length:Int) - 1))).bind λy4=>
 y4.elim (λy4a=>
  some (-1:Int)) (λy4a=>
  some y4a)
def eU (n:Nat) (a0:aG) (a1:aH) (a2:aJ) (a3:Int):Option (Int × aG × aH):=
 (lC n a0 a1 a2.gS).bind λx2=>
 (aT a0 a1 (decide (x2<0)) 131 a3).bind λx3=>
 (aS a0.p_.aU a0.f_).bind λx6=>
 (aT a0 x3 (decide ((x6.aO.length:Int)<250)) 136 a3).bind λx9=>
 if x9.e_ != 0 then
  some ((-1:Int),a0,x9)
 else
  iE (x6.aO.length+1<=1073741824) <|
  iE (a0.bI.length+1<=1073741824) <|
  some ((x6.aO.length:Int),({ a0 with p_:=⟨(a0.p_.aU.set a0.f_.toNat { x6 with aO:=(x6.aO++[a2]) })⟩,bI:=(a0.bI++[(x6.aO.length:Int)]) }:aG),x9)
@[go_sem] def jP (n:Nat) (a2:(List aB)):Nat->Int->aG->aH->Option (aG × aH)
 | 0,_,_,_=>none
 | c6+1,v2,v3,v4=>
   if decide (v2<(a2.length:Int)) then
    ((aS a2 v2).bind λx12=>
      (if (i64.wrap x12.nY) == 4 then
         some (decide (0<(x12.aM.length:Int)))
        else
         some false).bind λy19=>
      if y19 then
       (aS x12.aM 0).bind λx25=>
       (wH (i64.wrap x25.nY)).bind λx31=>
       (aT v3 v4 x31 136 x12.fV).bind λx32=>
       (eU n v3 x32 (aJ.mk x12.dL (i64.wrap x12.nY) (i64.wrap x25.nY)) x12.fV).bind λx35=>
       some (x35.2.1,x35.2.2)
      else
       (eU n v3 v4 (aJ.mk x12.dL (i64.wrap x12.nY) 0) x12.fV).bind λx37=>
       some (x37.2.1,x37.2.2)).bind λy11=>
    jP n a2 c6 (i64.wrap (v2+1)) y11.1 y11.2
   else
    some (v3,v4)
def qL (n:Nat) (a0:aG) (a1:aH) (a2:(List aB)):Option (aG × aH):=
 (jP n a2 n 0 a0 a1).bind λy5=>
 (aS y5.1.p_.aU y5.1.f_).bind λx61=>
 some (({ y5.1 with p_:=⟨(y5.1.p_.aU.set y5.1.f_.toNat { x61 with aQ:=(x61.aO.length:Int) })⟩ }:aG),y5.2)
@[go_sem] def oA (a0:aP):Nat->Int->Int->Option Int
 | 0,_,_=>none
 | c8+1,v5,v6=>
   if decide (v6<((a0.aO.take a0.aQ.toNat).length:Int)) then
    ((aS (a0.aO.take a0.aQ.toNat) v6).bind λx14=>
      if x14.bF == 3 then
       some (i64.wrap ((i64.wrap (v5+(i64.wrap ((v5.tmod 2)+1))))+1))
      else
       some (i64.wrap (v5+1))).bind λy13=>
    oA a0 c8 y13 (i64.wrap (v6+1))
   else
    some v5
def sO (n:Nat) (a0:aP):Option Int:=
 iE (0<=a0.aQ/\a0.aQ<=(a0.aO.length:Int)) <|
 (oA a0 n 0 0).bind λy7=>
 some y7
def lB (n:Nat) (a0:aG) (a1:aH) (a2:Int) (a3:aB):Option (aG × aH):=
 (mD n a0 a1 a2).bind λx2=>
 iE (0<=(max (i64.wrap ((a3.aM.length:Int) - 1)) 0)/\(max (i64.wrap ((a3.aM.length:Int) - 1)) 0)<=(a3.aM.length:Int)) <|
 (qL n x2.1 x2.2 (a3.aM.take (max (i64.wrap ((a3.aM.length:Int) - 1)) 0).toNat)).bind λx4=>
 if x4.2.e_ == 0 then
  ((aS x4.1.p_.aU x4.1.f_).bind λx10=>
    if !x10.eC then
     (aT x4.1 x4.2 true 136 a3.fV).bind λx27=>
     some x27
    else
     (sO n x10).bind λx29=>
     (aT x4.1 x4.2 (decide (x29<=4)) 136 a3.fV).bind λx30=>
     some x30).bind λy9=>
  some (x4.1,y9)
 else
  some (x4.1,x4.2)
def fO (a0:aG) (a1:aH) (a2:Int):Option Int:=
 if decide (a2<0) then
  some 0
 else
  (aS a0.p_.aU a0.f_).bind λx2=>
  (aS x2.aO a2).bind λx5=>
  some x5.bF
def iB (n:Nat) (a0:aG) (a1:aH) (a2:aB):Option (Int × aH):=
 (lC n a0 a1 a2.dL).bind λx2=>
 (aT a0 a1 (decide (0<=x2)) 130 a2.fV).bind λx4=>
 some (x2,x4)
def tC (a0:Int) (a1:Int):Option Int:=
 (if a0 == a1 then
    if decide (1<=a0) then
     some (decide (a0<=3))
    else
     some false
   else
    some false).bind λy1=>
 if y1 then
  some a0
 else
  (if a0 == 1 then
     if a1 == 2 then
      some true
     else
      if a0 == 2 then
       some (a1 == 1)
      else
       some false
    else
     if a0 == 2 then
      some (a1 == 1)
     else
      some false).bind λy8=>
  if y8 then
   some 2
  else
   some 0
def cR (a0:aG) (a1:aH) (a2:aF) (a3:Int):Option (aF × aH):=
 (aT a0 a1 (a3 != 0) 132 a2.fV).bind λx3=>
 some (({ a2 with cP:=a3 }:aF),x3)
def iL (a0:aG) (a1:aH) (a2:aF) (a3:aF) (a4:aF):Option (aF × aH):=
 (aT a0 a1 (a4.cP == 1) 133 a4.fV).bind λx5=>
 if a3.cP == 3 then
  (if decide (a4.eG=([110,117,109]:cQ)) then
     (aT a0 x5 (decide (a4.N_<=63)) 132 a2.fV).bind λx10=>
     some x10
    else
     (aT a0 x5 false 132 a2.fV).bind λx12=>
     some x12).bind λy8=>
  (cR a0 y8 a2 a3.cP).bind λx17=>
  some (x17.1,x17.2)
 else
  (cR a0 x5 a2 a3.cP).bind λx19=>
  some (x19.1,x19.2)
def tA (a0:Int):Option Int:=
 if a0 == 1 then
  some 2
 else
  some a0
def qQ (a0:Int):Option Bool:=
 (if a0 == 1 then
    some true
   else
    some (a0 == 2)).bind λy1=>
 some y1
def lJ (a0:aG) (a1:aH) (a2:aF):Option Int:=
 (aS a2.aM 1).bind λx2=>
 (aS a2.aM 2).bind λx3=>
 (tC x2.cP x3.cP).bind λx4=>
 ((aS a2.aM 0).bind λx17=>
   (qQ x17.cP).bind λx18=>
   if !x18 then
    some true
   else
    some (x4 == 0)).bind λy16=>
 if y16 then
  some 0
 else
  (tA x4).bind λx30=>
  some x30
def nV (mF:aG->aH->aB->aF->Option (aF × aH)) (lQ:aG->aH->aB->aF->Option (aF × aH)) (kW:aG->aH->aB->aF->Option (aF × aH)) (kI:aG->aH->aB->aF->Option (aF × aH)) (n:Nat) (a0:aG) (a1:aH) (a2:aB):Option (aF × aH):=
 if a2.bF == 14 then
  some ((aF.mk ([110,117,109]:cQ) 1 a2.nY (-1:Int) [] a2.fV),a1)
 else
  if a2.bF == 15 then
   (iB n a0 a1 a2).bind λx6=>
   (fO a0 x6.2 x6.1).bind λx8=>
   (aT a0 x6.2 (x8 != 4) 132 a2.fV).bind λx10=>
   some ((aF.mk ([118,97,114]:cQ) x8 0 x6.1 [] a2.fV),x10)
  else
   if a2.bF == 16 then
    (mF a0 a1 a2 (aF.mk [] 0 0 (-1:Int) [] a2.fV)).bind λx13=>
    some (x13.1,x13.2)
   else
    if a2.bF == 18 then
     (lQ a0 a1 a2 (aF.mk [] 0 0 (-1:Int) [] a2.fV)).bind λx16=>
     some (x16.1,x16.2)
    else
     if a2.bF == 19 then
      (kW a0 a1 a2 (aF.mk [] 0 0 (-1:Int) [] a2.fV)).bind λx19=>
      some (x19.1,x19.2)
     else
      (kI a0 a1 a2 (aF.mk [] 0 0 (-1:Int) [] a2.fV)).bind λx21=>
      some (x21.1,x21.2)
def nU (dP:aG->aH->aB->Option (aF × aH)) (n:Nat) (a0:aG) (a1:aH) (a2:aB) (a3:aF):Option (aF × aH):=
 (aS a2.aM 0).bind λx4=>
 (dP a0 a1 x4).bind λx5=>
 (iB n a0 x5.2 a2).bind λx13=>
 (fO a0 x13.2 x13.1).bind λx15=>
 (aT a0 x13.2 (x15 == 4) 132 a2.fV).bind λx16=>
 (aT a0 x16 (x5.1.cP == 1) 133 x5.1.fV).bind λx19=>
 (if x19.e_ == 0 then
    some (decide (x5.1.eG=([110,117,109]:cQ)))
   else
    some false).bind λy21=>
 if y21 then
  (aS a0.p_.aU a0.f_).bind λx27=>
  (aS x27.aO x13.1).bind λx30=>
  (aT a0 x19 (decide ((i64.wrap x5.1.N_)<x30.gA)) 137 x5.1.fV).bind λx31=>
  some (({ a3 with eG:=([105,110,100,101,120]:cQ),cP:=2,cZ:=x13.1,aM:=[x5.1] }:aF),x31)
 else
  some (({ a3 with eG:=([105,110,100,101,120]:cQ),cP:=2,cZ:=x13.1,aM:=[x5.1] }:aF),x19)
def mV (dB:aG->aH->(List aB)->Option ((List aF) × aH)) (n:Nat) (a0:aG) (a1:aH) (a2:aB) (a3:aF):Option (aF × aH):=
 (dB a0 a1 a2.aM).bind λx4=>
 if decide (a2.dL=([45]:cQ)) then
  (aS x4.1 0).bind λx7=>
  some (({ a3 with eG:=([110,101,103]:cQ),cP:=x7.cP,aM:=x4.1 }:aF),x4.2)
 else
  (aS x4.1 0).bind λx13=>
  some (({ a3 with eG:=([110,111,116]:cQ),cP:=x13.cP,aM:=x4.1 }:aF),x4.2)
def mJ (dB:aG->aH->(List aB)->Option ((List aF) × aH)) (n:Nat) (a0:aG) (a1:aH) (a2:aB) (a3:aF):Option (aF × aH):=
 (dB a0 a1 a2.aM).bind λx4=>
 (aS x4.1 0).bind λx6=>
 (aS x4.1 1).bind λx9=>
 (tC x6.cP x9.cP).bind λx20=>
 if decide (a2.dL=([47]:cQ)) then
  (aT a0 x4.2 (x6.cP == 1) 133 x6.fV).bind λx23=>
  (aT a0 x23 (x9.cP == 1) 133 x9.fV).bind λx25=>
  (cR a0 x25 ({ a3 with eG:=a2.dL,aM:=x4.1 }:aF) 1).bind λx27=>
  some (x27.1,x27.2)
 else
  if decide (a2.dL=([37]:cQ)) then
   (aT a0 x4.2 (x6.cP == 1) 133 x6.fV).bind λx30=>
   (aT a0 x30 (x9.cP == 1) 133 x9.fV).bind λx32=>
   (cR a0 x32 ({ a3 with eG:=a2.dL,aM:=x4.1 }:aF) 1).bind λx34=>
   some (x34.1,x34.2)
  else
   if decide (a2.dL=([60,60]:cQ)) then
    (iL a0 x4.2 ({ a3 with eG:=a2.dL,aM:=x4.1 }:aF) x6 x9).bind λx37=>
    some (x37.1,x37.2)
   else
    if decide (a2.dL=([62,62]:cQ)) then
     (iL a0 x4.2 ({ a3 with eG:=a2.dL,aM:=x4.1 }:aF) x6 x9).bind λx40=>
     some (x40.1,x40.2)
    else
     if decide (a2.dL=([60,60,60]:cQ)) then
      (iL a0 x4.2 ({ a3 with eG:=a2.dL,aM:=x4.1 }:aF) x6 x9).bind λx43=>
      some (x43.1,x43.2)
     else
      if decide (a2.dL=([42]:cQ)) then
       (aT a0 x4.2 (x20 != 3) 132 a2.fV).bind λx46=>
       (cR a0 x46 ({ a3 with eG:=a2.dL,aM:=x4.1 }:aF) x20).bind λx48=>
       some (x48.1,x48.2)
      else
       if decide (a2.dL=([61,61]:cQ)) then
        if x20 == 3 then
         (cR a0 x4.2 ({ a3 with eG:=a2.dL,aM:=x4.1 }:aF) 2).bind λx52=>
         some (x52.1,x52.2)
        else
         (cR a0 x4.2 ({ a3 with eG:=a2.dL,aM:=x4.1 }:aF) x20).bind λx54=>
         some (x54.1,x54.2)
       else
        if decide (a2.dL=([60]:cQ)) then
         if x20 == 3 then
          (cR a0 x4.2 ({ a3 with eG:=a2.dL,aM:=x4.1 }:aF) 2).bind λx58=>
          some (x58.1,x58.2)
         else
          (cR a0 x4.2 ({ a3 with eG:=a2.dL,aM:=x4.1 }:aF) x20).bind λx60=>
          some (x60.1,x60.2)
        else
         (cR a0 x4.2 ({ a3 with eG:=a2.dL,aM:=x4.1 }:aF) x20).bind λx62=>
         some (x62.1,x62.2)
def lS (dB:aG->aH->(List aB)->Option ((List aF) × aH)) (n:Nat) (a0:aG) (a1:aH) (a2:aB) (a3:aF):Option (aF × aH):=
 (uJ n a2.dL).bind λx4=>
 (aT a0 a1 (decide (0<x4)) 130 a2.fV).bind λx6=>
 (aT a0 x6 ((a2.aM.length:Int) == x4) 136 a2.fV).bind λx8=>
 (dB a0 x8 a2.aM).bind λx10=>
 if x10.2.e_ != 0 then
  some (({ a3 with eG:=a2.dL,aM:=x10.1 }:aF),x10.2)
 else
  (aS x10.1 0).bind λx13=>
  if decide (a2.dL=([115,101,108,101,99,116]:cQ)) then
   (lJ a0 x10.2 ({ a3 with eG:=a2.dL,aM:=x10.1 }:aF)).bind λx20=>
   (cR a0 x10.2 ({ a3 with eG:=a2.dL,aM:=x10.1 }:aF) x20).bind λx21=>
   some (x21.1,x21.2)
  else
   if decide (a2.dL=([108,111,110,103]:cQ)) then
    (qQ x13.cP).bind λx25=>
    (aT a0 x10.2 x25 132 a2.fV).bind λx26=>
    (cR a0 x26 ({ a3 with eG:=a2.dL,aM:=x10.1 }:aF) 3).bind λx29=>
    some (x29.1,x29.2)
   else
    if decide (a2.dL=([119,105,100,101]:cQ)) then
     ((qQ x13.cP).bind λx33=>
       if x33 then
        (aS x10.1 1).bind λx36=>
        (qQ x36.cP).bind λx37=>
        (aT a0 x10.2 x37 132 a2.fV).bind λx38=>
        some x38
       else
        (aT a0 x10.2 false 132 a2.fV).bind λx46=>
        some x46).bind λy32=>
     (cR a0 y32 ({ a3 with eG:=a2.dL,aM:=x10.1 }:aF) 3).bind λx51=>
     some (x51.1,x51.2)
    else
     (aT a0 x10.2 (x13.cP == 3) 132 a2.fV).bind λx53=>
     (cR a0 x53 ({ a3 with eG:=a2.dL,aM:=x10.1 }:aF) 2).bind λx55=>
     some (x55.1,x55.2)
@[go_sem] def qN (dP:aG->aH->aB->Option (aF × aH)) (a2:(List aB)) (a0:aG):Nat->(List aF)->Int->aH->Option ((List aF) × aH)
 | 0,_,_,_=>none
 | c6+1,v2,v3,v4=>
   if decide (v3<(a2.length:Int)) then
    (aS a2 v3).bind λx11=>
    (dP a0 v4 x11).bind λx17=>
    iE (v2.length+[x17.1].length<=1073741824) <|
    qN dP a2 a0 c6 (v2++[x17.1]) (i64.wrap (v3+1)) x17.2
   else
    some (v2,v4)
def oT (dP:aG->aH->aB->Option (aF × aH)) (n:Nat) (a0:aG) (a1:aH) (a2:(List aB)):Option ((List aF) × aH):=
 (qN dP a2 a0 n [] 0 a1).bind λy5=>
 some (y5.1,y5.2)
def cD:Nat->(aG->aH->aB->Option (aF × aH)) × (aG->aH->aB->aF->Option (aF × aH)) × (aG->aH->aB->aF->Option (aF × aH)) × (aG->aH->aB->aF->Option (aF × aH)) × (aG->aH->aB->aF->Option (aF × aH)) × (aG->aH->(List aB)->Option ((List aF) × aH))
 | 0=>(λ_ _ _=>none,λ_ _ _ _=>none,λ_ _ _ _=>none,λ_ _ _ _=>none,λ_ _ _ _=>none,λ_ _ _=>none)
 | n+1=>(nV (cD n).2.1 (cD n).2.2.1 (cD n).2.2.2.1 (cD n).2.2.2.2.1 n,nU (cD n).1 n,mV (cD n).2.2.2.2.2 n,mJ (cD n).2.2.2.2.2 n,lS (cD n).2.2.2.2.2 n,oT (cD n).1 n)
def iC (n:Nat):aG->aH->aB->Option (aF × aH):=(cD n).1
def Fj (n:Nat):aG->aH->aB->aF->Option (aF × aH):=(cD n).2.1
def EJ (n:Nat):aG->aH->aB->aF->Option (aF × aH):=(cD n).2.2.1
def Ei (n:Nat):aG->aH->aB->aF->Option (aF × aH):=(cD n).2.2.2.1
def Ds (n:Nat):aG->aH->aB->aF->Option (aF × aH):=(cD n).2.2.2.2.1
def Gm (n:Nat):aG->aH->(List aB)->Option ((List aF) × aH):=(cD n).2.2.2.2.2
def fI (n:Nat) (a0:aG) (a1:aH) (a2:aB):Option (aF × aH):=
 (iC n a0 a1 a2).bind λx3=>
 (aT a0 x3.2 (x3.1.cP == 1) 133 a2.fV).bind λx6=>
 some (x3.1,x6)
def mI (n:Nat) (a0:aG) (a1:aH) (a2:aB):Option (Int × aH):=
 (oU n a0.p_ a2.dL).bind λx2=>
 (aT a0 a1 x2.2 130 a2.fV).bind λx5=>
 some (x2.1,x5)
def nS (a0:aG) (a1:aH) (a2:Int):Option (List aJ):=
 (aS a0.p_.aU a2).bind λx1=>
 iE (0<=x1.aQ/\x1.aQ<=(x1.aO.length:Int)) <|
 some (x1.aO.take (x1.aQ.toNat))
def tD (a0:Int) (a1:Int):Option Bool:=
 (if a0 == a1 then
    some true
   else
    if a0 == 1 then
     some (a1 == 2)
    else
     some false).bind λy1=>
 some y1
def mE (n:Nat) (a0:aG) (a1:aH) (a2:aB) (a3:Int):Option (aF × aH):=
 (aT a0 a1 (a2.bF == 15) 132 a2.fV).bind λx3=>
 (iB n a0 x3 a2).bind λx5=>
 ((fO a0 x5.2 x5.1).bind λx8=>
   if x8 == 4 then
    (aS a0.p_.aU a0.f_).bind λx11=>
    (aS x11.aO (max x5.1 0)).bind λx14=>
    (aT a0 x5.2 (x14.gA == a3) 132 a2.fV).bind λx15=>
    some x15
   else
    (aT a0 x5.2 false 132 a2.fV).bind λx40=>
    some x40).bind λy7=>
 some ((aF.mk ([118,97,114]:cQ) 4 0 x5.1 [] a2.fV),y7)
def mK (n:Nat) (a0:aG) (a1:aH) (a2:aB) (a3:aJ):Option (aF × aH):=
 if a3.bF == 4 then
  (mE n a0 a1 a2 a3.gA).bind λx5=>
  some (x5.1,x5.2)
 else
  if a3.bF == 1 then
   (fI n a0 a1 a2).bind λx8=>
   some (x8.1,x8.2)
  else
   (iC n a0 a1 a2).bind λx10=>
   (tD x10.1.cP a3.bF).bind λx13=>
   (aT a0 x10.2 x13 132 a2.fV).bind λx14=>
   some (x10.1,x14)
@[go_sem] def kS (n:Nat) (a2:aB) (x20:(List aJ)) (a0:aG) (x7:(List Int)) (x4:(Int × aH)):Nat->Int->aH->aA->Option (aH × aA)
 | 0,_,_,_=>none
 | c29+1,v25,v26,v27=>
   if decide (v25<(a2.aM.length:Int)) then
    (aS a2.aM v25).bind λx34=>
    if v26.e_ != 0 then
     some (v26,v27)
    else
     (aS x20 v25).bind λx41=>
     (mK n ({ a0 with cJ:=(a0.cJ.set a0.fU.toNat (x7++[x4.1])) }:aG) v26 x34 x41).bind λx42=>
     iE (v27.aM.length+[x42.1].length<=1073741824) <|
     kS n a2 x20 a0 x7 x4 c29 (i64.wrap (v25+1)) x42.2 ({ v27 with aM:=(v27.aM++[x42.1]) }:aA)
   else
    some (v26,v27)
def jM (n:Nat) (a0:aG) (a1:aH) (a2:aB) (a3:aA) (a4:Int):Option (aA × aG × aH):=
 (mI n a0 a1 a2).bind λx4=>
 if x4.2.e_ != 0 then
  some (({ a3 with eG:=([99,97,108,108]:cQ),cZ:=a4,gI:=x4.1,aM:=[] }:aA),a0,x4.2)
 else
  (aS a0.cJ a0.fU).bind λx7=>
  iE (x7.length+1<=1073741824) <|
  (nS ({ a0 with cJ:=(a0.cJ.set a0.fU.toNat (x7++[x4.1])) }:aG) x4.2 x4.1).bind λx20=>
  (aT ({ a0 with cJ:=(a0.cJ.set a0.fU.toNat (x7++[x4.1])) }:aG) x4.2 ((a2.aM.length:Int) == (x20.length:Int)) 136 a2.fV).bind λx22=>
  (kS n a2 x20 a0 x7 x4 n 0 x22 ({ a3 with eG:=([99,97,108,108]:cQ),cZ:=a4,gI:=x4.1,aM:=[] }:aA)).bind λy28=>
  some (y28.2,({ a0 with cJ:=(a0.cJ.set a0.fU.toNat (x7++[x4.1])) }:aG),y28.1)
def jV (n:Nat) (a0:aG) (a1:aH) (a2:aB):Option Bool:=
 (if a2.bF == 17 then
    (uJ n a2.dL).bind λx4=>
    some (x4 == 0)
   else
    some false).bind λy2=>
 some y2
def oS (n:Nat) (a0:aG) (a1:aH) (a2:aB) (a3:aA):Option (aA × aG × aH):=
 (aS a2.aM 0).bind λx4=>
 (jV n a0 a1 x4).bind λx5=>
 if x5 then
  (jM n a0 a1 x4 ({ a3 with aM:=[] }:aA) (-1:Int)).bind λx13=>
  if x13.2.2.e_ != 0 then
   some (({ x13.1 with fV:=a2.fV }:aA),x13.2.1,x13.2.2)
  else
   (aS x13.2.1.p_.aU x13.1.gI).bind λx16=>
   (aT x13.2.1 x13.2.2 (x16.bV != 0) 132 a2.fV).bind λx30=>
   (eU n x13.2.1 x30 (aJ.mk a2.dL x16.bV 0) a2.fV).bind λx32=>
   some (({ x13.1 with cZ:=x32.1,fV:=a2.fV }:aA),x32.2.1,x32.2.2)
 else
  (iC n a0 a1 x4).bind λx34=>
  (tA x34.1.cP).bind λx37=>
  (eU n a0 x34.2 (aJ.mk a2.dL x37 0) a2.fV).bind λx38=>
  some (({ a3 with eG:=([118,97,114]:cQ),cZ:=x38.1,aM:=[x34.1] }:aA),x38.2.1,x38.2.2)
def mW (n:Nat) (a0:aG) (a1:aH) (a2:aB):Option (Int × aH):=
 (iB n a0 a1 a2).bind λx2=>
 (fO a0 x2.2 x2.1).bind λx4=>
 (if x4 == 2 then
    (aT a0 x2.2 true 132 a2.fV).bind λx8=>
    some x8
   else
    (aT a0 x2.2 (x4 == 3) 132 a2.fV).bind λx10=>
    some x10).bind λy6=>
 some (x2.1,y6)
def qD (n:Nat) (a0:aG) (a1:aH) (a2:aB) (a3:aA):Option (aA × aG × aH):=
 (mW n a0 a1 a2).bind λx4=>
 (aS a2.aM 0).bind λx6=>
 (jV n a0 x4.2 x6).bind λx7=>
 if x7 then
  (jM n a0 x4.2 x6 ({ a3 with aM:=[] }:aA) x4.1).bind λx15=>
  if x15.2.2.e_ == 0 then
   (fO x15.2.1 x15.2.2 x4.1).bind λx18=>
   (aS x15.2.1.p_.aU x15.1.gI).bind λx19=>
   (aT x15.2.1 x15.2.2 (x19.bV == x18) 132 a2.fV).bind λx21=>
   some (({ x15.1 with fV:=a2.fV }:aA),x15.2.1,x21)
  else
   some (({ x15.1 with fV:=a2.fV }:aA),x15.2.1,x15.2.2)
 else
  (iC n a0 x4.2 x6).bind λx36=>
  (fO a0 x36.2 x4.1).bind λx39=>
  (tD x36.1.cP x39).bind λx40=>
  (aT a0 x36.2 x40 132 a2.fV).bind λx41=>
  some (({ a3 with eG:=([115,101,116]:cQ),cZ:=x4.1,aM:=[x36.1] }:aA),a0,x41)
def oR (n:Nat) (a0:aG) (a1:aH) (a2:aB) (a3:Int):Option (aF × aH):=
 (fI n a0 a1 a2).bind λx3=>
 (if x3.2.e_ == 0 then
    some (decide (x3.1.eG=([110,117,109]:cQ)))
   else
    some false).bind λy6=>
 if y6 then
  (aS a0.p_.aU a0.f_).bind λx12=>
  (aS x12.aO a3).bind λx15=>
  (aT a0 x3.2 (decide ((i64.wrap x3.1.N_)<x15.gA)) 137 a2.fV).bind λx16=>
  some (x3.1,x16)
 else
  some (x3.1,x3.2)
def qE (n:Nat) (a0:aG) (a1:aH) (a2:aB) (a3:aA):Option (aA × aH):=
 (iB n a0 a1 a2).bind λx4=>
 (fO a0 x4.2 x4.1).bind λx6=>
 (aT a0 x4.2 (x6 == 4) 132 a2.fV).bind λx7=>
 (aS a2.aM 0).bind λx10=>
 (oR n a0 x7 x10 x4.1).bind λx11=>
 (aS a2.aM 1).bind λx19=>
 (iC n a0 x11.2 x19).bind λx20=>
 (tD x20.1.cP 2).bind λx28=>
 (aT a0 x20.2 x28 132 a2.fV).bind λx29=>
 some (({ a3 with eG:=([112,117,116]:cQ),cZ:=x4.1,aM:=[x11.1,x20.1] }:aA),x29)
def pH (n:Nat) (a0:aG) (a1:aH) (a2:aB) (a3:aA) (a4:Bool):Option (aA × aG × aH):=
 (if a4 then
    (aS a0.p_.aU a0.f_).bind λx6=>
    (aT a0 a1 (x6.bV != 0) 135 a2.fV).bind λx9=>
    some x9
   else
    (aT a0 a1 false 135 a2.fV).bind λx24=>
    some x24).bind λy4=>
 (if y4.e_ == 0 then
    (aS a2.aM 0).bind λx31=>
    (jV n a0 y4 x31).bind λx32=>
    some x32
   else
    some false).bind λy29=>
 if y29 then
  (aS a2.aM 0).bind λx43=>
  (jM n a0 y4 x43 ({ a3 with aM:=[] }:aA) (-2:Int)).bind λx44=>
  if x44.2.2.e_ == 0 then
   (aS x44.2.1.p_.aU x44.1.gI).bind λx52=>
   (aS x44.2.1.p_.aU x44.2.1.f_).bind λx54=>
   (aT x44.2.1 x44.2.2 (x52.bV == x54.bV) 132 a2.fV).bind λx57=>
   some (({ x44.1 with fV:=a2.fV }:aA),x44.2.1,x57)
  else
   some (({ x44.1 with fV:=a2.fV }:aA),x44.2.1,x44.2.2)
 else
  (aS a2.aM 0).bind λx83=>
  (iC n a0 y4 x83).bind λx84=>
  (aS a0.p_.aU a0.f_).bind λx92=>
  (tD x84.1.cP x92.bV).bind λx95=>
  (aT a0 x84.2 x95 132 a2.fV).bind λx96=>
  some (({ a3 with eG:=([114,101,116,117,114,110]:cQ),aM:=[x84.1] }:aA),a0,x96)
@[go_sem] def kF (eE:aG->aH->aB->Bool->Option (aA × aG × aH)) (a2:aB) (a3:Bool):Nat->(List aA)->Int->aG->aH->Option ((List aA) × aG × aH)
 | 0,_,_,_,_=>none
 | c9+1,v4,v5,v6,v7=>
   if decide (v5<(a2.aM.length:Int)) then
    (aS a2.aM v5).bind λx14=>
    if v7.e_ != 0 then
     some (v4,v6,v7)
    else
     (if a3 then
        (eE v6 v7 x14 (v5 == (i64.wrap ((a2.aM.length:Int) - 1)))).bind λx28=>
        iE (v4.length+[x28.1].length<=1073741824) <|
        some ((v4++[x28.1]),x28.2.1,x28.2.2)
       else
        (eE v6 v7 x14 false).bind λx33=>
        iE (v4.length+[x33.1].length<=1073741824) <|
        some ((v4++[x33.1]),x33.2.1,x33.2.2)).bind λy26=>
     kF eE a2 a3 c9 y26.1 (i64.wrap (v5+1)) y26.2.1 y26.2.2
   else
    some (v4,v6,v7)
def mY (eE:aG->aH->aB->Bool->Option (aA × aG × aH)) (n:Nat) (a0:aG) (a1:aH) (a2:aB) (a3:Bool):Option ((List aA) × aG × aH):=
 (kF eE a2 a3 n [] 0 a0 a1).bind λy8=>
 iE (0<=(a0.bI.length:Int)/\(a0.bI.length:Int)<=(y8.2.1.bI.length:Int)) <|
 some (y8.1,({ y8.2.1 with bI:=(y8.2.1.bI.take (a0.bI.length)) }:aG),y8.2.2)
@[go_sem] def gU (dJ:aG->aH->aB->Bool->Option ((List aA) × aG × aH)) (a2:aB):Nat->Int->aG->aH->aA->Option (aG × aH × aA)
 | 0,_,_,_,_=>none
 | c59+1,v54,v55,v56,v57=>
   if decide (v54<((a2.aM.drop 2).length:Int)) then
    (aS (a2.aM.drop 2) v54).bind λx64=>
    (dJ v55 v56 x64 false).bind λx70=>
    gU dJ a2 c59 (i64.wrap (v54+1)) x70.2.1 x70.2.2 ({ v57 with iP:=x70.1 }:aA)
   else
    some (v55,v56,v57)
def kK (dJ:aG->aH->aB->Bool->Option ((List aA) × aG × aH)) (pB:aG->aH->aB->aA->Option (aA × aG × aH)) (n:Nat) (a0:aG) (a1:aH) (a2:aB) (a3:Bool):Option (aA × aG × aH):=
 if a2.bF == 5 then
  (aS a2.aM 0).bind λx5=>
  (fI n a0 a1 x5).bind λx6=>
  (eU n a0 x6.2 (aJ.mk a2.dL 1 0) a2.fV).bind λx13=>
  some ((aA.mk ([108,101,116]:cQ) x13.1 0 [x6.1] [] [] a2.fV),x13.2.1,x13.2.2)
 else
  if a2.bF == 6 then
   (oS n a0 a1 a2 (aA.mk [] (-1:Int) 0 [] [] [] a2.fV)).bind λx16=>
   some (x16.1,x16.2.1,x16.2.2)
  else
   if a2.bF == 7 then
    (wH (i64.wrap (min a2.nY 1025))).bind λx19=>
    (aT a0 a1 x19 136 a2.fV).bind λx20=>
    (eU n a0 x20 (aJ.mk a2.dL 4 (i64.wrap a2.nY)) a2.fV).bind λx23=>
    some ((aA.mk ([97,114,114]:cQ) x23.1 0 [] [] [] a2.fV),x23.2.1,x23.2.2)
   else
    if a2.bF == 8 then
     (qD n a0 a1 a2 (aA.mk [] (-1:Int) 0 [] [] [] a2.fV)).bind λx26=>
     some (x26.1,x26.2.1,x26.2.2)
    else
     if a2.bF == 9 then
      (qE n a0 a1 a2 (aA.mk [] (-1:Int) 0 [] [] [] a2.fV)).bind λx29=>
      some (x29.1,a0,x29.2)
     else
      if a2.bF == 10 then
       (jM n a0 a1 a2 (aA.mk [] (-1:Int) 0 [] [] [] a2.fV) (-1:Int)).bind λx32=>
       some (x32.1,x32.2.1,x32.2.2)
      else
       if a2.bF == 11 then
        (aS a2.aM 0).bind λx35=>
        (fI n a0 a1 x35).bind λx36=>
        (aS a2.aM 1).bind λx43=>
        (dJ a0 x36.2 x43 false).bind λx44=>
        iE ((0:Int)<=2/\2<=(a2.aM.length:Int)) <|
        (gU dJ a2 n 0 x44.2.1 x44.2.2 (aA.mk ([105,102]:cQ) (-1:Int) 0 [x36.1] x44.1 [] a2.fV)).bind λy58=>
        some (y58.2.2,y58.1,y58.2.1)
       else
        if a2.bF == 12 then
         (pB a0 a1 a2 (aA.mk [] (-1:Int) 0 [] [] [] a2.fV)).bind λx73=>
         some (x73.1,x73.2.1,x73.2.2)
        else
         if a2.bF == 13 then
          (pH n a0 a1 a2 (aA.mk [] (-1:Int) 0 [] [] [] a2.fV) a3).bind λx76=>
          some (x76.1,x76.2.1,x76.2.2)
         else
          some ((aA.mk [] (-1:Int) 0 [] [] [] a2.fV),a0,a1)
def nT (dJ:aG->aH->aB->Bool->Option ((List aA) × aG × aH)) (n:Nat) (a0:aG) (a1:aH) (a2:aB) (a3:aA):Option (aA × aG × aH):=
 (aS a2.aM 0).bind λx4=>
 (fI n a0 a1 x4).bind λx5=>
 (aS a2.aM 1).bind λx6=>
 (fI n a0 x5.2 x6).bind λx7=>
 (eU n a0 x7.2 (aJ.mk a2.dL 1 0) a2.fV).bind λx21=>
 (aS a2.aM 2).bind λx23=>
 (dJ x21.2.1 x21.2.2 x23 false).bind λx24=>
 iE (0<=(min (a0.bI.length:Int) (x24.2.1.bI.length:Int))/\(min (a0.bI.length:Int) (x24.2.1.bI.length:Int))<=(x24.2.1.bI.length:Int)) <|
 some (({ a3 with eG:=([102,111,114]:cQ),cZ:=x21.1,aM:=[x5.1,x7.1],bR:=x24.1 }:aA),({ x24.2.1 with bI:=(x24.2.1.bI.take ((min (a0.bI.length:Int) (x24.2.1.bI.length:Int)).toNat)) }:aG),x24.2.2)
def eQ:Nat->(aG->aH->aB->Bool->Option ((List aA) × aG × aH)) × (aG->aH->aB->Bool->Option (aA × aG × aH)) × (aG->aH->aB->aA->Option (aA × aG × aH))
 | 0=>(λ_ _ _ _=>none,λ_ _ _ _=>none,λ_ _ _ _=>none)
 | n+1=>(mY (eQ n).2.1 n,kK (eQ n).1 (eQ n).2.2 n,nT (eQ n).1 n)
def tU (n:Nat):aG->aH->aB->Bool->Option ((List aA) × aG × aH):=(eQ n).1
def BD (n:Nat):aG->aH->aB->Bool->Option (aA × aG × aH):=(eQ n).2.1
def Fi (n:Nat):aG->aH->aB->aA->Option (aA × aG × aH):=(eQ n).2.2
def vH (a0:aB):Option Bool:=
 (if decide (0<(a0.aM.length:Int)) then
    (aS a0.aM (i64.wrap ((a0.aM.length:Int) - 1))).bind λx4=>
    some (x4.bF == 13)
   else
    some false).bind λy2=>
 some y2
@[go_sem] def jG (n:Nat) (a3:aB):Nat->Int->aG->aH->Option (aG × aH)
 | 0,_,_,_=>none
 | c11+1,v7,v8,v9=>
   if decide (v7<((a3.aM.drop (max (i64.wrap ((a3.aM.length:Int) - 1)) 0).toNat).length:Int)) then
    (aS (a3.aM.drop (max (i64.wrap ((a3.aM.length:Int) - 1)) 0).toNat) v7).bind λx16=>
    (aS v8.p_.aU v8.f_).bind λx22=>
    (tU n v8 v9 x16 true).bind λx25=>
    (aS x25.2.1.p_.aU v8.f_).bind λx26=>
    ((aS (x25.2.1.p_.aU.set v8.f_.toNat { x26 with bR:=x25.1 }) v8.f_).bind λx56=>
      if x56.bV == 0 then
       (aT ({ x25.2.1 with p_:=⟨(x25.2.1.p_.aU.set v8.f_.toNat { x26 with bR:=x25.1 })⟩ }:aG) x25.2.2 true 135 a3.fV).bind λx71=>
       some x71
      else
       (vH x16).bind λx73=>
       (aT ({ x25.2.1 with p_:=⟨(x25.2.1.p_.aU.set v8.f_.toNat { x26 with bR:=x25.1 })⟩ }:aG) x25.2.2 x73 135 a3.fV).bind λx74=>
       some x74).bind λy55=>
    jG n a3 c11 (i64.wrap (v7+1)) ({ x25.2.1 with p_:=⟨(x25.2.1.p_.aU.set v8.f_.toNat { x26 with bR:=x25.1 })⟩ }:aG) y55
   else
    some (v8,v9)
def lD (n:Nat) (a0:aG) (a1:aH) (a2:Int) (a3:aB):Option (aG × aH):=
 (mD n a0 a1 a2).bind λx2=>
 iE (0<=(max (i64.wrap ((a3.aM.length:Int) - 1)) 0)/\(max (i64.wrap ((a3.aM.length:Int) - 1)) 0)<=(a3.aM.length:Int)) <|
 (jG n a3 n 0 x2.1 x2.2).bind λy10=>
 some (y10.1,y10.2)
def vZ (rec_:Int->List Int->Option (Bool × List Int)) (to:Int):List Int->List Int->Option (Bool × List Int)
 | [],seen=>some (false,seen)
 | k::ks,seen=>
   if k == to then some (true,seen)
   else
    (aS seen k).bind λs=>
    if i64.wrap (s+1) == 1 then
     (rec_ k (seen.set k.toNat (i64.wrap (s+1)))).bind λr=>
     if r.1=true then some (true,r.2) else vZ rec_ to ks r.2
    else vZ rec_ to ks (seen.set k.toNat (i64.wrap (s+1)))
def kQ:Nat->aG->Int->Int->List Int->Option (Bool × List Int)
 | 0,_,_,_,_=>none
 | n+1,c,fr,to,seen=>(aS c.cJ fr).bind λl=>iE (l.length<=1073741824) <| vZ (λk s=>kQ n c k to s) to l seen
abbrev Look:=Int->aB->aG->aH->Option (aG × aH)
def tB (look:Look):List aB->Nat->aG->aH->Option (aG × aH)
 | [],_,c,w=>some (c,w)
 | f::l,i,c,w=>if w.e_ == 0 then (look i f c w).bind λr=>tB look l (i+1) r.1 r.2 else tB look l (i+1) c w
def wI (nodes:List aB):List Look->aG->aH->Option (aG × aH)
 | [],c,w=>some (c,w)
 | look::ls,c,w=>(tB look nodes 0 c w).bind λr=>wI nodes ls r.1 r.2
def yP (n len:Nat) (c:aG):List aB->Nat->aH->Option aH
 | [],_,w=>some w
 | f::l,i,w=>if w.e_ == 0 then (kQ n c i i (List.replicate len 0)).bind λr=>(aT c w (!r.1) 134 f.fV).bind λw'=>yP n len c l (i+1) w' else yP n len c l (i+1) w
def wJ (n:Nat) (a0:cQ):Option (aK × Int × Int):=
 (zE n a0).bind λp=>
 if p.2.1 != 0 then some (⟨[]⟩,p.2.1,p.2.2)
 else
  (oQ n aG.Z ⟨0,0⟩ p.1).bind λa=>
  iE (p.1.aM.length<=1073741824) <|
  (wI p.1.aM [λi f c w=>lB n c w i f,λi f c w=>lD n c w i f] a.1 a.2).bind λb=>
  (yP n p.1.aM.length b.1 p.1.aM 0 b.2).bind λw=>
  if w.e_ != 0 then some (⟨[]⟩,w.e_,w.Cn) else some (b.1.p_,0,0)
structure aL where
 p_:aK
 f_:aP
 gG:Int
 e_:Int
def eB (a0:aL):Option aL:=
 if decide (16384<(i64.wrap (a0.gG+1))) then
  some ({ a0 with gG:=(i64.wrap (a0.gG+1)),e_:=161 }:aL)
 else
  some ({ a0 with gG:=(i64.wrap (a0.gG+1)) }:aL)
def xF (a0:Int) (a1:(List Int)):Option Int:=
 (if decide (a0<0) then
    some true
   else
    some (decide ((a1.length:Int)<=a0))).bind λy1=>
 if y1 then
  some a0
 else
  (aS a1 a0).bind λx7=>
  some x7
def uG (uD:(List aF)->(List Int)->Option (List aF)) (n:Nat) (a0:aF) (a1:(List Int)):Option aF:=
 (xF a0.cZ a1).bind λx3=>
 (uD a0.aM a1).bind λx5=>
 some ({ a0 with cZ:=x3,aM:=x5 }:aF)
@[go_sem] def tQ (qS:aF->(List Int)->Option aF) (a0:(List aF)) (a1:(List Int)):Nat->(List aF)->Int->Option (List aF)
 | 0,_,_=>none
 | c5+1,v2,v3=>
   if decide (v3<(a0.length:Int)) then
    (aS a0 v3).bind λx10=>
    (qS x10 a1).bind λx16=>
    iE (v2.length+[x16].length<=1073741824) <|
    tQ qS a0 a1 c5 (v2++[x16]) (i64.wrap (v3+1))
   else
    some v2
def sY (qS:aF->(List Int)->Option aF) (n:Nat) (a0:(List aF)) (a1:(List Int)):Option (List aF):=
 (tQ qS a0 a1 n [] 0).bind λy4=>
 some y4
def yX:Nat->(aF->(List Int)->Option aF) × ((List aF)->(List Int)->Option (List aF))
 | 0=>(λ_ _=>none,λ_ _=>none)
 | n+1=>(uG (yX n).2 n,sY (yX n).1 n)
def qV (n:Nat):aF->(List Int)->Option aF:=(yX n).1
def sZ (n:Nat):(List aF)->(List Int)->Option (List aF):=(yX n).2
def eA (a0:aL) (a1:aJ):Option (Int × aL):=
 if decide (4096<=(a0.f_.aO.length:Int)) then
  some (0,({ a0 with e_:=161 }:aL))
 else
  iE (a0.f_.aO.length+[a1].length<=1073741824) <|
  some ((i64.wrap (((a0.f_.aO++[a1]).length:Int) - 1)),({ a0 with f_:=({ a0.f_ with aO:=(a0.f_.aO++[a1]) }:aP) }:aL))
@[go_sem] def fH (n:Nat) (a1:aA) (a3:(List Int)) (a2:aP):Nat->(List aA)->(List Int)->Int->aL->Option ((List aA) × (List Int) × aL)
 | 0,_,_,_,_=>none
 | c9+1,v4,v5,v6,v7=>
   if decide (v6<(a1.aM.length:Int)) then
    ((aS a1.aM v6).bind λx15=>
      if x15.cP == 4 then
       (xF x15.cZ a3).bind λx22=>
       iE (v5.length+[x22].length<=1073741824) <|
       some (v4,(v5++[x22]),v7)
      else
       (aS a2.aO v6).bind λx29=>
       if x29.bF == 1 then
        (eB v7).bind λx35=>
        (eA x35 x29).bind λx37=>
        iE (v5.length+[x37.1].length<=1073741824) <|
        (qV n x15 a3).bind λx44=>
        iE (v4.length+[(aA.mk ([108,101,116]:cQ) x37.1 0 [x44] [] [] a1.fV)].length<=1073741824) <|
        some ((v4++[(aA.mk ([108,101,116]:cQ) x37.1 0 [x44] [] [] a1.fV)]),(v5++[x37.1]),x37.2)
       else
        (eB v7).bind λx49=>
        (eA x49 x29).bind λx51=>
        iE (v5.length+[x51.1].length<=1073741824) <|
        (qV n x15 a3).bind λx58=>
        iE (v4.length+[(aA.mk ([118,97,114]:cQ) x51.1 0 [x58] [] [] a1.fV)].length<=1073741824) <|
        some ((v4++[(aA.mk ([118,97,114]:cQ) x51.1 0 [x58] [] [] a1.fV)]),(v5++[x51.1]),x51.2)).bind λy14=>
    fH n a1 a3 a2 c9 y14.1 y14.2.1 (i64.wrap (v6+1)) y14.2.2
   else
    some (v4,v5,v7)
def mC (n:Nat) (a0:aL) (a1:aA) (a2:aP) (a3:(List Int)):Option ((List aA) × (List Int) × aL):=
 (fH n a1 a3 a2 n [] [] 0 a0).bind λy8=>
 some (y8.1,y8.2.1,y8.2.2)
def jT (a0:aL) (a1:aA) (a2:(List Int)) (a3:aA):Option aA:=
 (aS a0.p_.aU a1.gI).bind λx4=>
 if a1.cZ == (-2:Int) then
  if decide (a3.fV<0) then
   some ({ a3 with fV:=a1.fV }:aA)
  else
   some a3
 else
  if a1.cZ == (-1:Int) then
   some (aA.mk ([118,97,114]:cQ) (-1:Int) x4.bV [] [] [] a1.fV)
  else
   (xF a1.cZ a2).bind λx12=>
   some (aA.mk ([115,101,116]:cQ) x12 0 [] [] [] a1.fV)
def fB (a0:aL) (a1:aF) (a2:aA):Option (aA × aL):=
 if decide (a2.eG=([118,97,114]:cQ)) then
  (eA a0 (aJ.mk [] a2.gI 0)).bind λx5=>
  some (({ a2 with cZ:=x5.1,gI:=0,aM:=[a1] }:aA),x5.2)
 else
  some (({ a2 with gI:=0,aM:=[a1] }:aA),a0)
@[go_sem] def dT (eR:aL->aA->(List Int)->aA->Option ((List aA) × aL)) (a1:(List aA)) (a2:(List Int)) (a3:aA):Nat->(List aA)->Int->aL->Option (((List aA) × aL) ⊕ ((List aA) × aL))
 | 0,_,_,_=>none
 | c7+1,v3,v4,v5=>
   if decide (v4<(a1.length:Int)) then
    (aS a1 v4).bind λx12=>
    if v5.e_ != 0 then
     some (.inr ([],v5))
    else
     (eR v5 x12 a2 a3).bind λx19=>
     iE (v3.length+x19.1.length<=1073741824) <|
     dT eR a1 a2 a3 c7 (v3++x19.1) (i64.wrap (v4+1)) x19.2
   else
    some (.inl (v3,v5))
def gC (eR:aL->aA->(List Int)->aA->Option ((List aA) × aL)) (n:Nat) (a0:aL) (a1:(List aA)) (a2:(List Int)) (a3:aA):Option ((List aA) × aL):=
 (dT eR a1 a2 a3 n [] 0 a0).bind λy6=>
 y6.elim (λy6a=>
  some (y6a.1,y6a.2)) (λy6a=>
  some y6a)
def eM (oH:aL->aA->(List Int)->aA->Option ((List aA) × aL)) (eH:aL->(List aA)->(List Int)->aA->Option ((List aA) × aL)) (n:Nat) (a0:aL) (a1:aA) (a2:(List Int)) (a3:aA):Option ((List aA) × aL):=
 if decide (a1.eG=([99,97,108,108]:cQ)) then
  (oH a0 a1 a2 a3).bind λx4=>
  some (x4.1,x4.2)
 else
  (eB a0).bind λx6=>
  if decide (a1.eG=([114,101,116,117,114,110]:cQ)) then
   (aS a1.aM 0).bind λx9=>
   (qV n x9 a2).bind λx10=>
   if decide (a3.fV<0) then
    (fB x6 x10 ({ a3 with fV:=a1.fV }:aA)).bind λx19=>
    some ([x19.1],x19.2)
   else
    (fB x6 x10 a3).bind λx21=>
    some ([x21.1],x21.2)
  else
   (xF a1.cZ a2).bind λx23=>
   (sZ n a1.aM a2).bind λx24=>
   (eH x6 a1.bR a2 a3).bind λx27=>
   (eH x27.2 a1.iP a2 a3).bind λx28=>
   some ([({ a1 with cZ:=x23,aM:=x24,bR:=x27.1,iP:=x28.1 }:aA)],x28.2)
@[go_sem] def fG (x5:aP):Nat->(List Int)->Int->aL->Option ((List Int) × aL)
 | 0,_,_,_=>none
 | c20+1,v16,v17,v18=>
   if decide (v17<((x5.aO.drop x5.aQ.toNat).length:Int)) then
    (aS (x5.aO.drop x5.aQ.toNat) v17).bind λx25=>
    (eA v18 x25).bind λx31=>
    iE (v16.length+[x31.1].length<=1073741824) <|
    fG x5 c20 (v16++[x31.1]) (i64.wrap (v17+1)) x31.2
   else
    some (v16,v18)
def gQ (eH:aL->(List aA)->(List Int)->aA->Option ((List aA) × aL)) (n:Nat) (a0:aL) (a1:aA) (a2:(List Int)) (a3:aA):Option ((List aA) × aL):=
 (eB a0).bind λx3=>
 (aS x3.p_.aU a1.gI).bind λx5=>
 (mC n x3 a1 x5 a2).bind λx11=>
 iE (0<=x5.aQ/\x5.aQ<=(x5.aO.length:Int)) <|
 (fG x5 n x11.2.1 0 x11.2.2).bind λy19=>
 if y19.2.e_ != 0 then
  some ([],y19.2)
 else
  (jT y19.2 a1 a2 a3).bind λx48=>
  (eH y19.2 x5.bR y19.1 x48).bind λx49=>
  iE (x11.1.length+x49.1.length<=1073741824) <|
  some ((x11.1++x49.1),x49.2)
def iJ:Nat->(aL->(List aA)->(List Int)->aA->Option ((List aA) × aL)) × (aL->aA->(List Int)->aA->Option ((List aA) × aL)) × (aL->aA->(List Int)->aA->Option ((List aA) × aL))
 | 0=>(λ_ _ _ _=>none,λ_ _ _ _=>none,λ_ _ _ _=>none)
 | n+1=>(gC (iJ n).2.1 n,eM (iJ n).2.2 (iJ n).1 n,gQ (iJ n).1 n)
def eN (n:Nat):aL->(List aA)->(List Int)->aA->Option ((List aA) × aL):=(iJ n).1
def gM (n:Nat):aL->aA->(List Int)->aA->Option ((List aA) × aL):=(iJ n).2.1
def kH (n:Nat):aL->aA->(List Int)->aA->Option ((List aA) × aL):=(iJ n).2.2
def tR (n:Nat) (a0:aK) (a1:Int):Option (aP × Int):=
 (if decide (a1<0) then
    some true
   else
    some (decide ((a0.aU.length:Int)<=a1))).bind λy3=>
 if y3 then
  some ((aP.mk [] false 0 0 [] []),11)
 else
  (aS a0.aU a1).bind λx9=>
  iE (x9.aO.length<=1073741824) <|
  (eN n (aL.mk a0 x9 0 0) x9.bR [] (aA.mk ([114,101,116,117,114,110]:cQ) (-1:Int) 0 [] [] [] (-1:Int))).bind λx17=>
  if x17.2.e_ != 0 then
   some ((aP.mk [] false 0 0 [] []),x17.2.e_)
  else
   some (({ x17.2.f_ with bR:=x17.1 }:aP),0)
structure T_interp_Args where
 tE:(List Int)
 iX:(List (List Int))
def T_interp_Args.C (x:T_interp_Args):List V:=[.list .none (x.tE.map (cI .u64)),.list .none (x.iX.map (cL (cI .u32)))]
@[go_sem] theorem T_interp_Args.C_eq (x:T_interp_Args):T_interp_Args.C x=[.list .none (x.tE.map (cI .u64)),.list .none (x.iX.map (cL (cI .u32)))]:=rI rfl
structure bE where
 bF:Int
 A_:Int
 B_:Int
def bE.C (x:bE):List V:=[.lit (.int .i64 x.bF),.lit (.int .u32 x.A_),.lit (.int .u32 x.B_)]
@[go_sem] theorem bE.C_eq (x:bE):bE.C x=[.lit (.int .i64 x.bF),.lit (.int .u32 x.A_),.lit (.int .u32 x.B_)]:=rI rfl
structure aE where
 p_:aK
 dO:Int
 cN:Int
 e_:Int
 bT:(List bE)
structure bH where
 eG:Int
 N_:Int
 aM:(List bH)
mutual
def bH.C:bH->List V
 | ⟨a0,a1,a2⟩=>[.lit (.int .i64 a0),.lit (.int .u32 a1),.list .none (bH.CL a2)]
def bH.CL:List bH->List (List V)
 | []=>[]
 | x::l=>bH.C x::bH.CL l
end
theorem bH.CL_eq (l:List bH):bH.CL l=l.map bH.C:=by
 induction l with
 | nil=>rfl
 | cons x l ih=>rw [bH.CL,ih];rfl
@[go_sem] theorem bH.C_eq (x:bH):bH.C x=[.lit (.int .i64 x.eG),.lit (.int .u32 x.N_),.list .none (x.aM.map bH.C)]:=by
 cases x;simp only [bH.C,bH.CL_eq]
structure aI where
 f_:aP
 bP:List Int
 aX:List Int
 eX:Int
def Eo (W A:Pa) (x:aI):List V:=[.lit (.string (bs x.f_.gS)),.lit (.bool x.f_.eC),.lit (.int .i64 x.f_.bV),.lit (.int .i64 x.f_.aQ),.list .none (x.f_.aO.map aJ.C),.list .none (x.f_.bR.map aA.C),.vec W 1 x.bP.length,.vec A 1 x.aX.length,.lit (.int .u64 x.eX)]
@[go_sem] theorem frC_eq {W A:Pa} {x:aI}:Eo W A x=[.lit (.string (bs x.f_.gS)),.lit (.bool x.f_.eC),.lit (.int .i64 x.f_.bV),.lit (.int .i64 x.f_.aQ),.list .none (x.f_.aO.map aJ.C),.list .none (x.f_.bR.map aA.C),.vec W 1 x.bP.length,.vec A 1 x.aX.length,.lit (.int .u64 x.eX)]:=rI rfl
structure cC where
 QM:Int
 bV:Int
 iX:(List (List Int))
 uL:(List bE)
def cC.C (x:cC):List V:=[.lit (.int .i64 x.QM),.lit (.int .u64 x.bV),.list .none (x.iX.map (cL (cI .u32))),.list .none (x.uL.map bE.C)]
@[go_sem] theorem cC.C_eq (x:cC):cC.C x=[.lit (.int .i64 x.QM),.lit (.int .u64 x.bV),.list .none (x.iX.map (cL (cI .u32))),.list .none (x.uL.map bE.C)]:=rI rfl
def cC.Z:cC:=⟨0,0,[],[]⟩
@[go_sem] def pI (a0:aP) (a1:T_interp_Args):Nat->Int->Int->Int->Option ((Int × Int) ⊕ Bool)
 | 0,_,_,_=>none
 | c10+1,v6,v7,v8=>
   if decide (v8<((a0.aO.take a0.aQ.toNat).length:Int)) then
    ((aS (a0.aO.take a0.aQ.toNat) v8).bind λx16=>
      if x16.bF == 4 then
       (if decide ((a1.iX.length:Int)<=v7) then
          some true
         else
          (aS a1.iX v7).bind λx25=>
          some ((x25.length:Int) != x16.gA)).bind λy23=>
       if y23 then
        some (.inr false)
       else
        some (.inl (v6,(i64.wrap (v7+1))))
      else
       (if decide ((a1.tE.length:Int)<=v6) then
          some true
         else
          if x16.bF != 3 then
           (aS a1.tE v6).bind λx37=>
           some (decide (4294967295<x37))
          else
           some false).bind λy34=>
       if y34 then
        some (.inr false)
       else
        some (.inl ((i64.wrap (v6+1)),v7)):Option ((Int × Int) ⊕ Bool)).bind λy15=>
    y15.elim (λy15a=>
     pI a0 a1 c10 y15a.1 y15a.2 (i64.wrap (v8+1))) (λy15a=>
     some (.inr y15a))
   else
    some (.inl (v6,v7))
def rR (n:Nat) (a0:aP) (a1:T_interp_Args):Option Bool:=
 iE (0<=a0.aQ/\a0.aQ<=(a0.aO.length:Int)) <|
 (pI a0 a1 n 0 0 0).bind λy9=>
 y9.elim (λy9a=>
  (if y9a.1 == (a1.tE.length:Int) then
     some (y9a.2 == (a1.iX.length:Int))
    else
     some false).bind λy54=>
  some y54) (λy9a=>
  some y9a)
def bO (a0:aE):Option Bool:=
 (if a0.cN != 0 then
    some true
   else
    some (a0.e_ != 0)).bind λy1=>
 some y1
def jL (a0:aE):Option aE:=
 if decide (a0.dO<=0) then
  some ({ a0 with e_:=70 }:aE)
 else
  some ({ a0 with dO:=(i64.wrap (a0.dO - 1)) }:aE)
def cX (a0:aE) (a1:Int) (a2:Int) (a3:Int):Option aE:=
 iE (a0.bT.length+[(bE.mk a1 a2 a3)].length<=1073741824) <|
 some ({ a0 with bT:=(a0.bT++[(bE.mk a1 a2 a3)]) }:aE)
def sX (a0:cQ) (a1:(List Int)):Option (Int × Bool):=
 if decide (a0=([115,101,108,101,99,116]:cQ)) then
  (aS a1 0).bind λx2=>
  if (yQ .u64 x2 1) == 1 then
   (aS a1 1).bind λx9=>
   some (x9,true)
  else
   (aS a1 2).bind λx15=>
   some (x15,true)
 else
  if decide (a0=([108,111,110,103]:cQ)) then
   (aS a1 0).bind λx22=>
   some (x22,true)
  else
   if decide (a0=([108,111]:cQ)) then
    (aS a1 0).bind λx29=>
    some ((yQ .u64 x29 4294967295),true)
   else
    if decide (a0=([104,105]:cQ)) then
     (aS a1 0).bind λx36=>
     some ((Nh .u64 x36 32),true)
    else
     if decide (a0=([119,105,100,101]:cQ)) then
      (aS a1 0).bind λx43=>
      (aS a1 1).bind λx44=>
      some ((u64.wrap (x43*x44)),true)
     else
      some (0,false)
def FL (a0:bH) (a1:(List Int)):Option Int:=
 if a0.eG == 1 then
  some a0.N_
 else
  if decide ((i64.wrap a0.N_)<(a1.length:Int)) then
   (aS a1 a0.N_).bind λx4=>
   some x4
  else
   some 0
def vP (a0:Bool):Option Int:=
 if a0 then
  some 1
 else
  some 0
def EU (a0:Int) (a1:Int):Option Int:=
 if a0 == 3 then
  some (comK .u32 a1)
 else
  some (u32.wrap (0 - a1))
def lL (a0:Int) (a1:Int):Option Int:=
 iE (0<=(yQ .u64 (u64.wrap a1) 31)) <|
 iE (0<=(u64.wrap (32 - (yQ .u64 (u64.wrap a1) 31)))) <|
 some (orK .u32 (Rn .u32 a0 (yQ .u64 (u64.wrap a1) 31)) (Nh .u32 a0 (u64.wrap (32 - (yQ .u64 (u64.wrap a1) 31)))))
def yD (a0:Int) (a1:Int) (a2:Int):Option Int:=
 if a0 == 5 then
  some (orK .u32 a1 a2)
 else
  if a0 == 6 then
   some (xorK .u32 a1 a2)
  else
   if a0 == 7 then
    some (yQ .u32 a1 a2)
   else
    if a0 == 10 then
     iE (0<=(yQ .u32 a2 31)) <|
     some (Rn .u32 a1 (yQ .u32 a2 31))
    else
     if a0 == 11 then
      iE (0<=(yQ .u32 a2 31)) <|
      some (Nh .u32 a1 (yQ .u32 a2 31))
     else
      (lL a1 (i64.wrap (yQ .u32 a2 31))).bind λx8=>
      some x8
def Dc (a0:Int) (a1:Int) (a2:Int):Option (Int × Bool):=
 if a0 == 8 then
  (vP (a1 == a2)).bind λx2=>
  some (x2,true)
 else
  if a0 == 9 then
   (vP (decide (a1<a2))).bind λx5=>
   some (x5,true)
  else
   if a0 == 13 then
    some ((u32.wrap (a1+a2)),true)
   else
    if a0 == 14 then
     some ((u32.wrap (a1 - a2)),true)
    else
     if a0 == 15 then
      some ((u32.wrap (a1*a2)),true)
     else
      if a0 == 16 then
       if a2 == 0 then
        some (0,false)
       else
        iE (a2 ≠ 0) <|
        some ((u32.wrap (a1.tdiv a2)),true)
      else
       if a0 == 17 then
        if a2 == 0 then
         some (0,false)
        else
         iE (a2 ≠ 0) <|
         some ((a1.tmod a2),true)
       else
        (yD a0 a1 a2).bind λx16=>
        some (x16,true)
def vY (tO:bH->(List Int)->Option (Int × Bool)) (n:Nat) (a0:bH) (a1:(List Int)):Option (Int × Bool):=
 if (a0.aM.length:Int) == 0 then
  (FL a0 a1).bind λx3=>
  some (x3,true)
 else
  (aS a0.aM 0).bind λx5=>
  (tO x5 a1).bind λx6=>
  (if !x6.2 then
     some true
    else
     some ((a0.aM.length:Int) == 1)).bind λy13=>
  if y13 then
   (vP x6.2).bind λx19=>
   (EU a0.eG x6.1).bind λx20=>
   some ((u32.wrap (x19*x20)),x6.2)
  else
   (aS a0.aM 1).bind λx23=>
   (tO x23 a1).bind λx24=>
   if !x24.2 then
    some (0,false)
   else
    (Dc a0.eG x6.1 x24.1).bind λx32=>
    some (x32.1,x32.2)
def nZ:Nat->bH->(List Int)->Option (Int × Bool)
 | 0=>λ_ _=>none
 | n+1=>vY (nZ n) n
def LH (a0:Int):Option bH:=
 some (bH.mk 1 a0 [])
@[go_sem] def qO (a0:cQ):Nat->Int->Option (Unit ⊕ Int)
 | 0,_=>none
 | c4+1,v2=>
   if decide (v2<15) then
    (aS eY v2).bind λx9=>
    if decide (x9.Qa=a0) then
     some (.inr x9.op_)
    else
     qO a0 c4 (i64.wrap (v2+1))
   else
    some (.inl ())
def sL (n:Nat) (a0:cQ):Option Int:=
 (qO a0 n 0).bind λy3=>
 y3.elim (λy3a=>
  some 0) (λy3a=>
  some y3a)
def lK (a0:Int) (a1:Int):Option Int:=
 iE (0<=(yQ .u64 (u64.wrap a1) 63)) <|
 iE (0<=(u64.wrap (64 - (yQ .u64 (u64.wrap a1) 63)))) <|
 some (orK .u64 (Rn .u64 a0 (yQ .u64 (u64.wrap a1) 63)) (Nh .u64 a0 (u64.wrap (64 - (yQ .u64 (u64.wrap a1) 63)))))
def uO (a0:Bool):Option Int:=
 if a0 then
  some 1
 else
  some 0
def wG (a0:cQ) (a1:Int) (a2:Int):Option Int:=
 if decide (a0=([124]:cQ)) then
  some (orK .u64 a1 a2)
 else
  if decide (a0=([94]:cQ)) then
   some (xorK .u64 a1 a2)
  else
   if decide (a0=([38]:cQ)) then
    some (yQ .u64 a1 a2)
   else
    if decide (a0=([43]:cQ)) then
     some (u64.wrap (a1+a2))
    else
     if decide (a0=([45]:cQ)) then
      some (u64.wrap (a1 - a2))
     else
      if decide (a0=([60,60]:cQ)) then
       iE (0<=a2) <|
       some (Rn .u64 a1 a2)
      else
       if decide (a0=([62,62]:cQ)) then
        iE (0<=a2) <|
        some (Nh .u64 a1 a2)
       else
        if decide (a0=([60,60,60]:cQ)) then
         (lK a1 (i64.wrap a2)).bind λx11=>
         some x11
        else
         if decide (a0=([61,61]:cQ)) then
          (uO (a1 == a2)).bind λx14=>
          some x14
         else
          if decide (a0=([60]:cQ)) then
           (uO (decide (a1<a2))).bind λx17=>
           some x17
          else
           if decide (a0=([110,111,116]:cQ)) then
            some (comK .u64 a1)
           else
            some (u64.wrap (0 - a1))
@[go_sem] def cU (a2:(List Int)):Nat->Int->bH->Option bH
 | 0,_,_=>none
 | c50+1,v47,v48=>
   if decide (v47<(a2.length:Int)) then
    (aS a2 v47).bind λx55=>
    (LH (u32.wrap x55)).bind λx60=>
    iE (v48.aM.length+[x60].length<=1073741824) <|
    cU a2 c50 (i64.wrap (v47+1)) ({ v48 with aM:=(v48.aM++[x60]) }:bH)
   else
    some v48
def fQ (n:Nat) (a0:aE) (a1:aF) (a2:(List Int)):Option (Int × aE):=
 (if decide (0<(a1.aM.length:Int)) then
    (aS a1.aM 0).bind λx4=>
    some (x4.cP == 3)
   else
    some false).bind λy2=>
 if decide (1<(a2.length:Int)) then
  (aS a2 1).bind λx14=>
  if y2 then
   (aS a2 0).bind λx21=>
   (wG a1.eG x21 x14).bind λx22=>
   some (x22,a0)
  else
   (if decide (a1.eG=([47]:cQ)) then
      some true
     else
      some (decide (a1.eG=([37]:cQ)))).bind λy29=>
   if y29 then
    (aS a2 0).bind λx35=>
    (cX a0 4 (u32.wrap x35) (u32.wrap x14)).bind λx36=>
    (sL n a1.eG).bind λx43=>
    (cU a2 n 0 (bH.mk x43 0 [])).bind λy49=>
    (nZ n y49 []).bind λx68=>
    if !x68.2 then
     some ((u64.wrap x68.1),({ x36 with cN:=2 }:aE))
    else
     some ((u64.wrap x68.1),x36)
   else
    (sL n a1.eG).bind λx71=>
    (cU a2 n 0 (bH.mk x71 0 [])).bind λy77=>
    (nZ n y77 []).bind λx96=>
    if !x96.2 then
     some ((u64.wrap x96.1),({ a0 with cN:=2 }:aE))
    else
     some ((u64.wrap x96.1),a0)
 else
  if y2 then
   (aS a2 0).bind λx100=>
   (wG a1.eG x100 0).bind λx101=>
   some (x101,a0)
  else
   (if decide (a1.eG=([47]:cQ)) then
      some true
     else
      some (decide (a1.eG=([37]:cQ)))).bind λy108=>
   if y108 then
    (aS a2 0).bind λx114=>
    (cX a0 4 (u32.wrap x114) (u32.wrap 0)).bind λx115=>
    (sL n a1.eG).bind λx122=>
    (cU a2 n 0 (bH.mk x122 0 [])).bind λy128=>
    (nZ n y128 []).bind λx147=>
    if !x147.2 then
     some ((u64.wrap x147.1),({ x115 with cN:=2 }:aE))
    else
     some ((u64.wrap x147.1),x115)
   else
    (sL n a1.eG).bind λx150=>
    (cU a2 n 0 (bH.mk x150 0 [])).bind λy156=>
    (nZ n y156 []).bind λx175=>
    if !x175.2 then
     some ((u64.wrap x175.1),({ a0 with cN:=2 }:aE))
    else
     some ((u64.wrap x175.1),a0)
@[go_sem] def eI (dN:aE->aI->(List (List Int))->aF->Option (Int × aE)) (a3:aF) (a1:aI) (a2:(List (List Int))):Nat->(List Int)->Int->aE->Option (((List Int) × aE) ⊕ (Int × aE))
 | 0,_,_,_=>none
 | c50+1,v46,v47,v48=>
   if decide (v47<(a3.aM.length:Int)) then
    (aS a3.aM v47).bind λx55=>
    (dN v48 a1 a2 x55).bind λx61=>
    (bO x61.2).bind λx63=>
    if x63 then
     some (.inr (0,x61.2))
    else
     iE (v46.length+[x61.1].length<=1073741824) <|
     eI dN a3 a1 a2 c50 (v46++[x61.1]) (i64.wrap (v47+1)) x61.2
   else
    some (.inl (v46,v48))
def dG (oG:aE->aI->(List (List Int))->aF->Int->Option (Int × aE)) (dN:aE->aI->(List (List Int))->aF->Option (Int × aE)) (n:Nat) (a0:aE) (a1:aI) (a2:(List (List Int))) (a3:aF):Option (Int × aE):=
 if decide (a3.eG=([110,117,109]:cQ)) then
  some ((u64.wrap a3.N_),a0)
 else
  if decide (a3.eG=([118,97,114]:cQ)) then
   (aS a1.bP a3.cZ).bind λx4=>
   some (x4,a0)
  else
   if decide (a3.eG=([105,110,100,101,120]:cQ)) then
    (aS a3.aM 0).bind λx12=>
    (oG a0 a1 a2 x12 a3.cZ).bind λx13=>
    (bO x13.2).bind λx20=>
    if x20 then
     some (0,x13.2)
    else
     (aS a1.aX a3.cZ).bind λx23=>
     (aS a2 x23).bind λx24=>
     (aS x24 x13.1).bind λx26=>
     some ((u64.wrap x26),x13.2)
   else
    (eI dN a3 a1 a2 n [] 0 a0).bind λy49=>
    y49.elim (λy49a=>
     (sX a3.eG y49a.1).bind λx74=>
     if x74.2=true then
      some (x74.1,y49a.2)
     else
      (fQ n y49a.2 a3 y49a.1).bind λx77=>
      some (x77.1,x77.2)) (λy49a=>
     some y49a)
def jE (dN:aE->aI->(List (List Int))->aF->Option (Int × aE)) (n:Nat) (a0:aE) (a1:aI) (a2:(List (List Int))) (a3:aF) (a4:Int):Option (Int × aE):=
 (dN a0 a1 a2 a3).bind λx2=>
 (bO x2.2).bind λx4=>
 if x4 then
  some (0,x2.2)
 else
  (aS a1.aX a4).bind λx7=>
  (aS a2 x7).bind λx8=>
  (cX x2.2 3 (u32.wrap x2.1) (u32.wrap (x8.length:Int))).bind λx22=>
  if decide ((u32.wrap (x8.length:Int))<=(u32.wrap x2.1)) then
   some (0,({ x22 with cN:=1 }:aE))
  else
   some ((u32.wrap x2.1),x22)
def fS:Nat->(aE->aI->(List (List Int))->aF->Option (Int × aE)) × (aE->aI->(List (List Int))->aF->Int->Option (Int × aE))
 | 0=>(λ_ _ _ _=>none,λ_ _ _ _ _=>none)
 | n+1=>(dG (fS n).2 (fS n).1 n,jE (fS n).1 n)
def aV (n:Nat):aE->aI->(List (List Int))->aF->Option (Int × aE):=(fS n).1
def fW (n:Nat):aE->aI->(List (List Int))->aF->Int->Option (Int × aE):=(fS n).2
def cF (a0:aI) (a1:(List (List Int))) (a2:Int) (a3:Int):Option (aI × (List (List Int))):=
 if decide (0<=a2) then
  (aS a0.bP a2).bind λx2=>
  some (({ a0 with bP:=(a0.bP.set a2.toNat a3) }:aI),a1)
 else
  some (a0,a1)
def eF (n:Nat) (a0:aE) (a1:aI) (a2:(List (List Int))) (a3:aA):Option (aE × aI × (List (List Int))):=
 (aS a3.aM 0).bind λx2=>
 (fW n a0 a1 a2 x2 a3.cZ).bind λx3=>
 (bO x3.2).bind λx10=>
 if x10 then
  some (x3.2,a1,a2)
 else
  (aS a3.aM 1).bind λx13=>
  (aV n x3.2 a1 a2 x13).bind λx14=>
  (bO x14.2).bind λx21=>
  if !x21 then
   (aS a1.aX a3.cZ).bind λx24=>
   (aS a2 x24).bind λx25=>
   (aS x25 x3.1).bind λx27=>
   some (x14.2,a1,(a2.set x24.toNat (x25.set x3.1.toNat (u32.wrap x14.1))))
  else
   some (x14.2,a1,a2)
@[go_sem] def eL (fE:aE->aI->(List (List Int))->aA->Option (aE × aI × (List (List Int)))) (a3:(List aA)):Nat->Int->aE->aI->(List (List Int))->Option ((aE × aI × (List (List Int))) ⊕ (aE × aI × (List (List Int))))
 | 0,_,_,_,_=>none
 | c7+1,v2,v3,v4,v5=>
   if decide (v2<(a3.length:Int)) then
    ((aS a3 v2).bind λx15=>
      (bO v3).bind λx21=>
      if x21 then
       some (.inr (v3,v4,v5))
      else
       (jL v3).bind λx24=>
       (bO x24).bind λx26=>
       if !x26 then
        (fE x24 v4 v5 x15).bind λx29=>
        some (.inl (x29.1,x29.2.1,x29.2.2))
       else
        some (.inl (x24,v4,v5)):Option ((aE × aI × (List (List Int))) ⊕ (aE × aI × (List (List Int))))).bind λy14=>
    y14.elim (λy14a=>
     eL fE a3 c7 (i64.wrap (v2+1)) y14a.1 y14a.2.1 y14a.2.2) (λy14a=>
     some (.inr y14a))
   else
    some (.inl (v3,v4,v5))
def eT (fE:aE->aI->(List (List Int))->aA->Option (aE × aI × (List (List Int)))) (n:Nat) (a0:aE) (a1:aI) (a2:(List (List Int))) (a3:(List aA)):Option (aE × aI × (List (List Int))):=
 (eL fE a3 n 0 a0 a1 a2).bind λy6=>
 y6.elim (λy6a=>
  some (y6a.1,y6a.2.1,y6a.2.2)) (λy6a=>
  some y6a)
def dS (pA:aE->aI->(List (List Int))->aA->Option (aE × aI × (List (List Int)))) (nJ:aE->aI->(List (List Int))->aA->Option (aE × aI × (List (List Int)))) (nI:aE->aI->(List (List Int))->aA->Option (aE × aI × (List (List Int)))) (n:Nat) (a0:aE) (a1:aI) (a2:(List (List Int))) (a3:aA):Option (aE × aI × (List (List Int))):=
 if decide (a3.eG=([108,101,116]:cQ)) then
  (aS a3.aM 0).bind λx3=>
  (aV n a0 a1 a2 x3).bind λx4=>
  (bO x4.2).bind λx11=>
  if !x11 then
   (cF a1 a2 a3.cZ x4.1).bind λx14=>
   some (x4.2,x14.1,x14.2)
  else
   some (x4.2,a1,a2)
 else
  if decide (a3.eG=([118,97,114]:cQ)) then
   (aS a3.aM 0).bind λx17=>
   (aV n a0 a1 a2 x17).bind λx18=>
   (bO x18.2).bind λx25=>
   if !x25 then
    (cF a1 a2 a3.cZ x18.1).bind λx28=>
    some (x18.2,x28.1,x28.2)
   else
    some (x18.2,a1,a2)
  else
   if decide (a3.eG=([115,101,116]:cQ)) then
    (aS a3.aM 0).bind λx31=>
    (aV n a0 a1 a2 x31).bind λx32=>
    (bO x32.2).bind λx39=>
    if !x39 then
     (cF a1 a2 a3.cZ x32.1).bind λx42=>
     some (x32.2,x42.1,x42.2)
    else
     some (x32.2,a1,a2)
   else
    if decide (a3.eG=([97,114,114]:cQ)) then
     (aS a1.aX a3.cZ).bind λx45=>
     (aS a2 x45).bind λx46=>
     iE (0<x46.length) <|
     some (a0,a1,(a2.set x45.toNat (List.replicate x46.length 0)))
    else
     if decide (a3.eG=([112,117,116]:cQ)) then
      (eF n a0 a1 a2 a3).bind λx64=>
      some (x64.1,x64.2.1,x64.2.2)
     else
      if decide (a3.eG=([99,97,108,108]:cQ)) then
       (pA a0 a1 a2 a3).bind λx67=>
       some (x67.1,x67.2.1,x67.2.2)
      else
       if decide (a3.eG=([105,102]:cQ)) then
        (nJ a0 a1 a2 a3).bind λx70=>
        some (x70.1,x70.2.1,x70.2.2)
       else
        if decide (a3.eG=([102,111,114]:cQ)) then
         (nI a0 a1 a2 a3).bind λx73=>
         some (x73.1,x73.2.1,x73.2.2)
        else
         if decide (a3.eG=([114,101,116,117,114,110]:cQ)) then
          (aS a3.aM 0).bind λx76=>
          (aV n a0 a1 a2 x76).bind λx77=>
          some (x77.2,({ a1 with eX:=x77.1 }:aI),a2)
         else
          some (a0,a1,a2)
def BZ (p:Nat):List aJ->Nat->Nat->List Int->List (List Int)->Option (List Int × List (List Int))
 | [],_,_,rs,hs=>some (rs,hs)
 | v::l,i,b,rs,hs=>if v.bF=4 then iE (0<v.gA/\v.gA<=1073741824) (BZ p l (i+1) b (rs.set (p+i) ((b+hs.length:Nat):Int)) (hs++[List.replicate v.gA.toNat 0])) else BZ p l (i+1) b rs hs
def uF (f:aP) (b:Nat):Option (aI × List (List Int)):=
 iE (0<=f.aQ/\f.aQ<=(f.aO.length:Int)/\f.aO.length<=1000000) <|
 (BZ f.aQ.toNat (f.aO.drop f.aQ.toNat) 0 b (List.replicate f.aO.length (-1)) []).bind λr=>
 some ((⟨f,List.replicate f.aO.length 0,r.1,0⟩:aI),r.2)
def mN (n:Nat) (fr:aI) (hs h2:List (List Int)):List aF->Nat->aE->aI->Option (aE ⊕ (aE × aI))
 | [],_,r,to=>some (.inr (r,to))
 | x::l,i,r,to=>
   if x.cP=4 then
    (aS fr.aX x.cZ).bind λk=>
    iE (0<=k/\k<(hs.length:Int)/\i<to.aX.length) <|
    mN n fr hs h2 l (i+1) r { to with aX:=to.aX.set i k }
   else
    (aV n r fr hs x).bind λv=>
    (bO v.2).bind λe=>
    if e then some (.inl v.2) else
    (cF to (hs++h2) (i:Int) v.1).bind λt=>
    mN n fr hs h2 l (i+1) v.2 t.1
def dZ (cH:aE->aI->(List (List Int))->(List aA)->Option (aE × aI × (List (List Int)))) (n:Nat) (a0:aE) (a1:aI) (a2:List (List Int)) (a3:aA):Option (aE × aI × List (List Int)):=
 iE (a3.aM.length<=1000000) <|
 (aS a0.p_.aU a3.gI).bind λf=>
 (uF f a2.length).bind λo=>
 (mN n a1 a2 o.2 a3.aM 0 a0 o.1).bind λc=>c.elim (λr=>some (r,a1,a2)) λc=>
 (cH c.1 c.2 (a2++o.2) c.2.f_.bR).bind λb=>
 (bO b.1).bind λe=>
 if e then some (b.1,a1,b.2.2.take a2.length) else
 if a3.cZ=-2 then some (b.1,({ a1 with eX:=b.2.1.eX }:aI),b.2.2.take a2.length) else
 (cF a1 (b.2.2.take a2.length) a3.cZ b.2.1.eX).bind λp=>some (b.1,p.1,p.2)
def eK (cH:aE->aI->(List (List Int))->(List aA)->Option (aE × aI × (List (List Int)))) (n:Nat) (a0:aE) (a1:aI) (a2:(List (List Int))) (a3:aA):Option (aE × aI × (List (List Int))):=
 (aS a3.aM 0).bind λx2=>
 (aV n a0 a1 a2 x2).bind λx3=>
 (bO x3.2).bind λx10=>
 if x10 then
  some (x3.2,a1,a2)
 else
  if x3.1 != 0 then
   (cX x3.2 1 1 0).bind λx14=>
   (cH x14 a1 a2 a3.bR).bind λx16=>
   some (x16.1,x16.2.1,x16.2.2)
  else
   (cX x3.2 1 0 0).bind λx18=>
   (cH x18 a1 a2 a3.iP).bind λx20=>
   some (x20.1,x20.2.1,x20.2.2)
@[go_sem] def gV (cH:aE->aI->(List (List Int))->(List aA)->Option (aE × aI × (List (List Int)))) (x14:(Int × aE)) (a3:aA):Nat->Int->aE->aI->(List (List Int))->Option (aE × aI × (List (List Int)))
 | 0,_,_,_,_=>none
 | c32+1,v27,v28,v29,v30=>
   (if decide (v27<(u32.wrap x14.1)) then
      (bO v28).bind λx40=>
      some (!x40)
     else
      some false).bind λy38=>
   if y38 then
    (jL v28).bind λx46=>
    (cF v29 v30 a3.cZ (u64.wrap v27)).bind λx48=>
    (cH x46 x48.1 x48.2 a3.bR).bind λx50=>
    gV cH x14 a3 c32 (u32.wrap (v27+1)) x50.1 x50.2.1 x50.2.2
   else
    some (v28,v29,v30)
def eJ (cH:aE->aI->(List (List Int))->(List aA)->Option (aE × aI × (List (List Int)))) (n:Nat) (a0:aE) (a1:aI) (a2:(List (List Int))) (a3:aA):Option (aE × aI × (List (List Int))):=
 (aS a3.aM 0).bind λx2=>
 (aV n a0 a1 a2 x2).bind λx3=>
 (bO x3.2).bind λx10=>
 if x10 then
  some (x3.2,a1,a2)
 else
  (aS a3.aM 1).bind λx13=>
  (aV n x3.2 a1 a2 x13).bind λx14=>
  (bO x14.2).bind λx21=>
  if x21 then
   some (x14.2,a1,a2)
  else
   (cX x14.2 2 (u32.wrap x3.1) (u32.wrap x14.1)).bind λx24=>
   (gV cH x14 a3 n (u32.wrap x3.1) x24 a1 a2).bind λy31=>
   some (y31.1,y31.2.1,y31.2.2)
def bQ:Nat->(aE->aI->(List (List Int))->(List aA)->Option (aE × aI × (List (List Int)))) × (aE->aI->(List (List Int))->aA->Option (aE × aI × (List (List Int)))) × (aE->aI->(List (List Int))->aA->Option (aE × aI × (List (List Int)))) × (aE->aI->(List (List Int))->aA->Option (aE × aI × (List (List Int)))) × (aE->aI->(List (List Int))->aA->Option (aE × aI × (List (List Int))))
 | 0=>(λ_ _ _ _=>none,λ_ _ _ _=>none,λ_ _ _ _=>none,λ_ _ _ _=>none,λ_ _ _ _=>none)
 | n+1=>(eT (bQ n).2.1 n,dS (bQ n).2.2.1 (bQ n).2.2.2.1 (bQ n).2.2.2.2 n,dZ (bQ n).1 n,eK (bQ n).1 n,eJ (bQ n).1 n)
def dA (n:Nat):aE->aI->(List (List Int))->(List aA)->Option (aE × aI × (List (List Int))):=(bQ n).1
def fT (n:Nat):aE->aI->(List (List Int))->aA->Option (aE × aI × (List (List Int))):=(bQ n).2.1
def iV (n:Nat):aE->aI->(List (List Int))->aA->Option (aE × aI × (List (List Int))):=(bQ n).2.2.1
def iA (n:Nat):aE->aI->(List (List Int))->aA->Option (aE × aI × (List (List Int))):=(bQ n).2.2.2.1
def gZ (n:Nat):aE->aI->(List (List Int))->aA->Option (aE × aI × (List (List Int))):=(bQ n).2.2.2.2
def Iy (hs:List (List Int)):List aJ->Nat->List Int->List (List Int)->Option (List (List Int))
 | [],_,_,out=>some out
 | v::l,i,rs,out=>
   if v.bF=4 then
    (aS rs (i:Int)).bind λk=>iE (0<=k) <| (aS hs k).bind λa=>Iy hs l (i+1) rs (out++[a])
   else Iy hs l (i+1) rs out
def AD (r:aE) (fr:aI) (hs:List (List Int)):Option cC:=
 iE ((∀k ∈ fr.aX,k<(hs.length:Int))/\0<=fr.f_.aQ/\fr.f_.aQ<=(fr.f_.aO.length:Int)/\fr.f_.aO.length<=1000000) <|
 (Iy hs (fr.f_.aO.take fr.f_.aQ.toNat) 0 fr.aX []).bind λa=>some ⟨r.cN,if r.cN=0 then fr.eX else 0,a,r.bT⟩
def sF (a:T_interp_Args):List aJ->Nat->Nat->Nat->aI->List (List Int)->Option (aI × List (List Int))
 | [],_,_,_,to,hs=>some (to,hs)
 | v::l,i,w,k,to,hs=>
   if v.bF=4 then
    (aS a.iX (k:Int)).bind λx=>iE (0<x.length/\x.length<=1073741824/\i<to.aX.length) <|
    sF a l (i+1) w (k+1) { to with aX:=to.aX.set i (hs.length:Int) } (hs++[x])
   else
    (aS a.tE (w:Int)).bind λx=>iE (i<to.bP.length) <|
    sF a l (i+1) (w+1) k { to with bP:=to.bP.set i x } hs
def sB (n:Nat) (p:aK) (fn:Int) (a:T_interp_Args) (fuel:Int):Option (cC × Int):=
 if fn<0 ∨ (p.aU.length:Int)<=fn then some (cC.Z,11) else
 (aS p.aU fn).bind λf=>
 (uF f 0).bind λo=>
 (rR n f a).bind λft=>
 if ft=false then some (cC.Z,10) else
 (sF a (f.aO.take f.aQ.toNat) 0 0 0 o.1 o.2).bind λt=>
 (dA n ⟨p,fuel,0,0,[]⟩ t.1 t.2 f.bR).bind λb=>
 if b.1.e_ ≠ 0 then some (cC.Z,b.1.e_) else
 (AD b.1 b.2.1 b.2.2).bind λx=>some (x,0)
def nH (n:Nat):Option Bool:=
 (wJ n ((102::110::32::103::40::120::58::32::117::51::50::41::32::45::62::32::117::51::50::32::123::32::114::101::116::117::114::110::32::120::32::43::32::49::59::32::125::32::102::110::32::102::40::121::58::32::117::51::50::41::32::45::62::32::117::51::50::32::123::32::121::32::61::32::103::40::121::41::59::32::114::101::116::117::114::110::32::121::59::32::125::[]):cQ)).bind λx1=>
 (tR n x1.1 1).bind λx4=>
 (if x1.2.1 == 0 then
    if x4.2 == 0 then
     if (x4.1.aO.length:Int) == 2 then
      if (x4.1.bR.length:Int) == 3 then
       (aS x4.1.bR 0).bind λx12=>
       if decide (x12.eG=([118,97,114]:cQ)) then
        (aS x4.1.bR 1).bind λx19=>
        if decide (x19.eG=([115,101,116]:cQ)) then
         (aS x4.1.bR 2).bind λx26=>
         some (decide (x26.eG=([114,101,116,117,114,110]:cQ)))
        else
         some false
       else
        some false
      else
       some false
     else
      some false
    else
     some false
   else
    some false).bind λy7=>
 some y7
def iQ (x73:(List Int)) (x74:(List Int)):Nat->Int->Option (Unit ⊕ Bool)
 | 0,_=>none
 | c87+1,v85=>
   if decide (v85<(x73.length:Int)) then
    (aS x73 v85).bind λx92=>
    (aS x74 v85).bind λx93=>
    if x92 != x93 then
     some (.inr false)
    else
     iQ x73 x74 c87 (i64.wrap (v85+1))
   else
    some (.inl ())
def gT (n:Nat) (x26:(cC × Int)) (x29:(cC × Int)):Nat->Int->Option (Unit ⊕ Bool)
 | 0,_=>none
 | c68+1,v66=>
   if decide (v66<(x26.1.iX.length:Int)) then
    (aS x26.1.iX v66).bind λx73=>
    (aS x29.1.iX v66).bind λx74=>
    if (x73.length:Int) != (x74.length:Int) then
     some (.inr false)
    else
     (iQ x73 x74 n 0).bind λy86=>
     y86.elim (λy86a=>
      gT n x26 x29 c68 (i64.wrap (v66+1))) (λy86a=>
      some (.inr y86a))
   else
    some (.inl ())
def iR (x26:(cC × Int)) (x29:(cC × Int)):Nat->Int->Option (Unit ⊕ Bool)
 | 0,_=>none
 | c49+1,v47=>
   if decide (v47<(x26.1.uL.length:Int)) then
    (aS x26.1.uL v47).bind λx54=>
    (aS x29.1.uL v47).bind λx55=>
    if !((x54.bF == x55.bF) && ((x54.A_ == x55.A_) && (x54.B_ == x55.B_))) then
     some (.inr false)
    else
     iR x26 x29 c49 (i64.wrap (v47+1))
   else
    some (.inl ())
def lO (n:Nat) (a0:cQ) (a1:Int) (a2:T_interp_Args) (a3:Int):Option Bool:=
 (nH n).bind λx2=>
 if !x2 then
  some false
 else
  (if decide (2000<(a0.length:Int)) then
     some true
    else
     if decide (2000<a3) then
      some true
     else
      if decide (10<(a2.tE.length:Int)) then
       some true
      else
       some (decide (10<(a2.iX.length:Int)))).bind λy5=>
  if y5 then
   some true
  else
   (wJ n a0).bind λx13=>
   if x13.2.1 != 0 then
    some true
   else
    (tR n x13.1 a1).bind λx17=>
    if x17.2 != 0 then
     (if x17.2 == 11 then
        some true
       else
        some (x17.2 == 161)).bind λy21=>
     some y21
    else
     (sB n x13.1 a1 a2 a3).bind λx26=>
     (sB n (aK.mk [x17.1]) 0 a2 a3).bind λx29=>
     (if x26.2 != 0 then
        some true
       else
        some (x29.2 != 0)).bind λy32=>
     if y32 then
      some ((x26.2 == 10) == (x29.2 == 10))
     else
      (if x26.1.QM != x29.1.QM then
         some true
        else
         if x26.1.bV != x29.1.bV then
          some true
         else
          if (x26.1.uL.length:Int) != (x29.1.uL.length:Int) then
           some true
          else
           some ((x26.1.iX.length:Int) != (x29.1.iX.length:Int))).bind λy38=>
      if y38 then
       some false
      else
       (iR x26 x29 n 0).bind λy48=>
       y48.elim (λy48a=>
        (gT n x26 x29 n 0).bind λy105=>
        y105.elim (λy105a=>
         some true) (λy105a=>
         some y105a)) (λy48a=>
        some y48a)
