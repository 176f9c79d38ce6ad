import Derived.Test.YtnnomaboaiokeaaGreatDoorWS3
namespace Go.Proofs.YtnnomaboaiokeaaGreatDoor.Abs
open IntKind (i64 u32 u64 u8)
open Go.RowKit
set_option linter.all false
structure bW where
 BY:Int
 rX:Int
def bW.C (x:bW):List V:=[.lit (.int .u32 x.BY),.lit (.int .u32 x.rX)]
@[go_sem] theorem bW.C_eq (x:bW):bW.C x=[.lit (.int .u32 x.BY),.lit (.int .u32 x.rX)]:=rI rfl
structure bJ where
 QF:cF
 QZ:Int
def bJ.C (x:bJ):List V:=[.lit (.string (bs x.QF)),.lit (.int .i64 x.QZ)]
@[go_sem] theorem bJ.C_eq (x:bJ):bJ.C x=[.lit (.string (bs x.QF)),.lit (.int .i64 x.QZ)]:=rI rfl
structure bY where
 IV:cF
 op_:Int
def bY.C (x:bY):List V:=[.lit (.string (bs x.IV)),.lit (.int .i64 x.op_)]
@[go_sem] theorem bY.C_eq (x:bY):bY.C x=[.lit (.string (bs x.IV)),.lit (.int .i64 x.op_)]:=rI rfl
structure dJ where
 bS:Int
 fG:Int
 cY:cF
 oR:Int
def dJ.C (x:dJ):List V:=[.lit (.int .i64 x.bS),.lit (.int .i64 x.fG),.lit (.string (bs x.cY)),.lit (.int .u32 x.oR)]
@[go_sem] theorem dJ.C_eq (x:dJ):dJ.C x=[.lit (.int .i64 x.bS),.lit (.int .i64 x.fG),.lit (.string (bs x.cY)),.lit (.int .u32 x.oR)]:=rI rfl
structure aD where
 bS:Int
 fG:Int
 cY:cF
 oR:Int
 aO:(List aD)
mutual
def aD.C:aD->List V
 | ⟨a0,a1,a2,a3,a4⟩=>[.lit (.int .i64 a0),.lit (.int .i64 a1),.lit (.string (bs a2)),.lit (.int .u32 a3),.list .none (aD.CL a4)]
def aD.CL:List aD->List (List V)
 | []=>[]
 | x::l=>aD.C x::aD.CL l
end
theorem aD.CL_eq (l:List aD):aD.CL l=l.map aD.C:=by
 induction l with
 | nil=>rfl
 | cons x l ih=>rw [aD.CL,ih];rfl
@[go_sem] theorem aD.C_eq (x:aD):aD.C x=[.lit (.int .i64 x.bS),.lit (.int .i64 x.fG),.lit (.string (bs x.cY)),.lit (.int .u32 x.oR),.list .none (x.aO.map aD.C)]:=by
 cases x;simp only [aD.C,aD.CL_eq]
structure aE where
 l_:(List dJ)
 gE:Int
 Ad:Int
 e_:Int
 Dl:Int
def aE.C (x:aE):List V:=[.list .none (x.l_.map dJ.C),.lit (.int .i64 x.gE),.lit (.int .i64 x.Ad),.lit (.int .i64 x.e_),.lit (.int .i64 x.Dl)]
@[go_sem] theorem aE.C_eq (x:aE):aE.C x=[.list .none (x.l_.map dJ.C),.lit (.int .i64 x.gE),.lit (.int .i64 x.Ad),.lit (.int .i64 x.e_),.lit (.int .i64 x.Dl)]:=rI rfl
structure aM where
 fX:cF
 bS:Int
 qV:Int
def aM.C (x:aM):List V:=[.lit (.string (bs x.fX)),.lit (.int .i64 x.bS),.lit (.int .i64 x.qV)]
@[go_sem] theorem aM.C_eq (x:aM):aM.C x=[.lit (.string (bs x.fX)),.lit (.int .i64 x.bS),.lit (.int .i64 x.qV)]:=rI rfl
structure aF where
 gA:cF
 cL:Int
 N_:Int
 fF:Int
 aO:(List aF)
 fG:Int
mutual
def aF.C:aF->List V
 | ⟨a0,a1,a2,a3,a4,a5⟩=>[.lit (.string (bs a0)),.lit (.int .i64 a1),.lit (.int .u32 a2),.lit (.int .i64 a3),.list .none (aF.CL a4),.lit (.int .i64 a5)]
def aF.CL:List aF->List (List V)
 | []=>[]
 | x::l=>aF.C x::aF.CL l
end
theorem aF.CL_eq (l:List aF):aF.CL l=l.map aF.C:=by
 induction l with
 | nil=>rfl
 | cons x l ih=>rw [aF.CL,ih];rfl
@[go_sem] theorem aF.C_eq (x:aF):aF.C x=[.lit (.string (bs x.gA)),.lit (.int .i64 x.cL),.lit (.int .u32 x.N_),.lit (.int .i64 x.fF),.list .none (x.aO.map aF.C),.lit (.int .i64 x.fG)]:=by
 cases x;simp only [aF.C,aF.CL_eq]
structure aB where
 gA:cF
 fF:Int
 gT:Int
 aO:(List aF)
 bO:(List aB)
 fE:(List aB)
 fG:Int
mutual
def aB.C:aB->List V
 | ⟨a0,a1,a2,a3,a4,a5,a6⟩=>[.lit (.string (bs a0)),.lit (.int .i64 a1),.lit (.int .i64 a2),.list .none (a3.map aF.C),.list .none (aB.CL a4),.list .none (aB.CL a5),.lit (.int .i64 a6)]
def aB.CL:List aB->List (List V)
 | []=>[]
 | x::l=>aB.C x::aB.CL l
end
theorem aB.CL_eq (l:List aB):aB.CL l=l.map aB.C:=by
 induction l with
 | nil=>rfl
 | cons x l ih=>rw [aB.CL,ih];rfl
@[go_sem] theorem aB.C_eq (x:aB):aB.C x=[.lit (.string (bs x.gA)),.lit (.int .i64 x.fF),.lit (.int .i64 x.gT),.list .none (x.aO.map aF.C),.list .none (x.bO.map aB.C),.list .none (x.fE.map aB.C),.lit (.int .i64 x.fG)]:=by
 cases x;simp only [aB.C,aB.CL_eq]
structure aT where
 fX:cF
 dK:Bool
 bX:Int
 bB:Int
 aW:(List aM)
 bO:(List aB)
def aT.C (x:aT):List V:=[.lit (.string (bs x.fX)),.lit (.bool x.dK),.lit (.int .i64 x.bX),.lit (.int .i64 x.bB),.list .none (x.aW.map aM.C),.list .none (x.bO.map aB.C)]
@[go_sem] theorem aT.C_eq (x:aT):aT.C x=[.lit (.string (bs x.fX)),.lit (.bool x.dK),.lit (.int .i64 x.bX),.lit (.int .i64 x.bB),.list .none (x.aW.map aM.C),.list .none (x.bO.map aB.C)]:=rI rfl
structure bG where
 bF:(List aT)
def bG.C (x:bG):List V:=[.list .none (x.bF.map aT.C)]
@[go_sem] theorem bG.C_eq (x:bG):bG.C x=[.list .none (x.bF.map aT.C)]:=rI rfl
def bG.Z:bG:=⟨[]⟩
structure aH where
 e_:Int
 Dl:Int
structure aG where
 p_:bG
 f_:Int
 bI:List Int
 cC:List (List Int)
 gE:Int
def aG.Z:aG:=⟨bG.Z,-1,[],[],0⟩
def qQ (F fp S C:V) (x:aG) (y:aH):List V:=[F,fp,S,C,.lit (.int .i64 x.gE),.lit (.int .i64 y.e_),.lit (.int .i64 y.Dl)]
@[go_sem] theorem ckC_eq {F fp S C:V} {x:aG} {y:aH}:qQ F fp S C x y=[F,fp,S,C,.lit (.int .i64 x.gE),.lit (.int .i64 y.e_),.lit (.int .i64 y.Dl)]:=rI rfl
def fH:List cF:=[[45,62],[46,46],[61,61],[60,60,60],[60,60],[62,62],[60],[40],[41],[123],[125],[91],[93],[44],[59],[58],[61],[43],[45],[42],[47],[37],[38],[124],[94],[126]]
@[go_sem] theorem Tl:(cA cS fH).length=26:=by kernel_rfl
@[go_sem] theorem Sg:(cA cS fH).take 26=(cA cS fH):=by kernel_rfl
def cD:List cF:=[[102,110],[101,120,112,111,114,116],[108,101,116],[118,97,114],[97,114,114],[105,102],[101,108,115,101],[102,111,114],[105,110],[114,101,116,117,114,110],[112,117,98],[117,51,50],[117,54,52]]
@[go_sem] theorem QM:(cA cS cD).length=13:=by kernel_rfl
@[go_sem] theorem Pf:Df 1 13 (cA cS cD)=cD.map cS:=rI rfl
def cU:List (List cF):=[[[124],[],[]],[[94],[],[]],[[38],[],[]],[[61,61],[60],[]],[[60,60],[62,62],[60,60,60]],[[43],[45],[]],[[42],[47],[37]]]
def cM:List bJ:=[(bJ.mk [115,101,108,101,99,116] 3),(bJ.mk [108,111,110,103] 1),(bJ.mk [108,111] 1),(bJ.mk [104,105] 1),(bJ.mk [119,105,100,101] 2)]
@[go_sem] theorem QO:(cA bJ.C cM).length=10:=by kernel_rfl
@[go_sem] theorem PU:(cA bJ.C cM).take 10=(cA bJ.C cM):=by kernel_rfl
@[go_sem] theorem Ov:(cA bJ.C cM).map V.shared=(cA bJ.C cM):=rI rfl
def eB:List bY:=[(bY.mk [124] 5),(bY.mk [94] 6),(bY.mk [38] 7),(bY.mk [61,61] 8),(bY.mk [60] 9),(bY.mk [60,60] 10),(bY.mk [62,62] 11),(bY.mk [60,60,60] 12),(bY.mk [43] 13),(bY.mk [45] 14),(bY.mk [42] 15),(bY.mk [47] 16),(bY.mk [37] 17),(bY.mk [110,111,116] 3),(bY.mk [110,101,103] 4)]
@[go_sem] theorem Si:(cA bY.C eB).length=30:=by kernel_rfl
@[go_sem] theorem QN:(cA bY.C eB).take 30=(cA bY.C eB):=by kernel_rfl
@[go_sem] theorem Pg:(cA bY.C eB).map V.shared=(cA bY.C eB):=rI rfl
def Bx (a0:Int):Option Bool:=
 (if a0 == 32 then
    some true
   else
    if a0 == 9 then
     some true
    else
     if a0 == 13 then
      some true
     else
      some (a0 == 10)).bind λy1=>
 some y1
def fI (a0:cF) (a1:cF):Option Bool:=
 (if decide ((a1.length:Int)<=(a0.length:Int)) then
    iG (0<=(a1.length:Int)/\(a1.length:Int)<=(a0.length:Int)) <|
    some (decide ((a0.take (a1.length:Int).toNat)=a1))
   else
    some false).bind λy1=>
 some y1
def nY (a0:cF) (a1:cF):Option Bool:=
 (fI a0 a1).bind λx1=>
 some x1
def oO (a0:cF) (a1:Int):Option Int:=some (Lib.indexByte a0 a1.toNat.toUInt8)
def lY (a0:cF) (a1:Int):Option Int:=
 (oO a0 a1).bind λx1=>
 some x1
def nX (a0:cF) (a1:Int):Option Int:=
 (lY a0 a1).bind λx1=>
 some x1
@[go_sem] def AD (a0:cF):Nat->Int->Option (Int ⊕ Int)
 | 0,_=>none
 | c4+1,v2=>
   if decide (v2<(a0.length:Int)) then
    (bL a0 v2).bind λx9=>
    (Bx (x9.toNat:Int)).bind λx10=>
    if x10 then
     AD a0 c4 (i64.wrap (v2+1))
    else
     iG (0<=v2/\v2<=(a0.length:Int)) <|
     (nY (a0.drop v2.toNat) ([47,47]:cF)).bind λx17=>
     if x17 then
      iG (0<=v2/\v2<=(a0.length:Int)) <|
      (nX (a0.drop v2.toNat) 10).bind λx22=>
      if decide (x22<0) then
       some (.inr (a0.length:Int))
      else
       AD a0 c4 (i64.wrap (v2+x22))
     else
      some (.inr v2)
   else
    some (.inl v2)
def BZ (n:Nat) (a0:cF) (a1:Int):Option Int:=
 (AD a0 n a1).bind λy3=>
 y3.elim (λy3a=>
  some y3a) (λy3a=>
  some y3a)
def wT (a0:Int):Option Bool:=
 (if decide (97<=a0) then
    if decide (a0<=122) then
     some true
    else
     some (a0 == 95)
   else
    some (a0 == 95)).bind λy1=>
 some y1
def Af (a0:Int):Option Bool:=
 (if decide (48<=a0) then
    some (decide (a0<=57))
   else
    some false).bind λy1=>
 some y1
@[go_sem] def Dc (a0:cF):Nat->Int->Option (Unit ⊕ cF)
 | 0,_=>none
 | c4+1,v2=>
   if decide (v2<(a0.length:Int)) then
    ((bL a0 v2).bind λx10=>
      (wT (x10.toNat:Int)).bind λx11=>
      if !x11 then
       (Af (x10.toNat:Int)).bind λx18=>
       some (!x18)
      else
       some false).bind λy9=>
    if y9 then
     iG (0<=v2/\v2<=(a0.length:Int)) <|
     some (.inr (a0.take v2.toNat))
    else
     Dc a0 c4 (i64.wrap (v2+1))
   else
    some (.inl ())
def Eo (n:Nat) (a0:cF):Option cF:=
 (Dc a0 n 0).bind λy3=>
 y3.elim (λy3a=>
  some a0) (λy3a=>
  some y3a)
def iY (a0:cF) (a1:cF):Option (cF × Bool):=
 (fI a0 a1).bind λx1=>
 if !x1 then
  some (a0,false)
 else
  iG (0<=(a1.length:Int)/\(a1.length:Int)<=(a0.length:Int)) <|
  some ((a0.drop (a1.length:Int).toNat),true)
def qB (a0:cF) (a1:cF):Option (cF × Bool):=
 (iY a0 a1).bind λx1=>
 some (x1.1,x1.2)
@[go_sem] def Bs (x1:(cF × Bool)):Nat->Int->Int->Option (Int ⊕ (Int × Bool))
 | 0,_,_=>none
 | c8+1,v5,v6=>
   if decide (v6<(x1.1.length:Int)) then
    iG ((0:Int)<=16/\16<=(([48,49,50,51,52,53,54,55,56,57,97,98,99,100,101,102]:cF).length:Int)) <|
    (bL x1.1 v6).bind λx13=>
    (nX (([48,49,50,51,52,53,54,55,56,57,97,98,99,100,101,102]:cF).take (16:Int).toNat) (x13.toNat:Int)).bind λx14=>
    (if decide (x14<0) then
       some true
      else
       some (decide (4294967295<(i64.wrap ((i64.wrap (v5*16))+x14))))).bind λy22=>
    if y22 then
     some (.inr (0,false))
    else
     Bs x1 c8 (i64.wrap ((i64.wrap (v5*16))+x14)) (i64.wrap (v6+1))
   else
    some (.inl v5)
@[go_sem] def Br (a0:cF):Nat->Int->Int->Option (Int ⊕ (Int × Bool))
 | 0,_,_=>none
 | c32+1,v29,v30=>
   if decide (v30<(a0.length:Int)) then
    iG ((0:Int)<=10/\10<=(([48,49,50,51,52,53,54,55,56,57,97,98,99,100,101,102]:cF).length:Int)) <|
    (bL a0 v30).bind λx37=>
    (nX (([48,49,50,51,52,53,54,55,56,57,97,98,99,100,101,102]:cF).take (10:Int).toNat) (x37.toNat:Int)).bind λx38=>
    (if decide (x38<0) then
       some true
      else
       some (decide (4294967295<(i64.wrap ((i64.wrap (v29*10))+x38))))).bind λy46=>
    if y46 then
     some (.inr (0,false))
    else
     Br a0 c32 (i64.wrap ((i64.wrap (v29*10))+x38)) (i64.wrap (v30+1))
   else
    some (.inl v29)
def Bw (n:Nat) (a0:cF):Option (Int × Bool):=
 (qB a0 ([48,120]:cF)).bind λx1=>
 if x1.2=true then
  (Bs x1 n 0 0).bind λy7=>
  y7.elim (λy7a=>
   some ((u32.wrap y7a),(decide (x1.1 ≠ ([]:cF))))) (λy7a=>
   some y7a)
 else
  (Br a0 n 0 0).bind λy31=>
  y31.elim (λy31a=>
   some ((u32.wrap y31a),(decide (a0 ≠ ([]:cF))))) (λy31a=>
   some y31a)
@[go_sem] def Dd (a0:cF):Nat->Int->Option (Unit ⊕ cF)
 | 0,_=>none
 | c4+1,v2=>
   if decide (v2<26) then
    (bL fH v2).bind λx9=>
    (nY a0 x9).bind λx17=>
    if x17 then
     some (.inr x9)
    else
     Dd a0 c4 (i64.wrap (v2+1))
   else
    some (.inl ())
def Ep (n:Nat) (a0:cF):Option cF:=
 (Dd a0 n 0).bind λy3=>
 y3.elim (λy3a=>
  some ([]:cF)) (λy3a=>
  some y3a)
def Eq (n:Nat) (a0:cF) (a1:Int):Option (dJ × Int):=
 iG (0<=a1/\a1<=(a0.length:Int)) <|
 (Eo n (a0.drop a1.toNat)).bind λx2=>
 (bL a0 a1).bind λx7=>
 (wT (x7.toNat:Int)).bind λx8=>
 if x8 then
  if decide (32<(x2.length:Int)) then
   some ((dJ.mk 0 0 [] 0),102)
  else
   some ((dJ.mk 1 a1 x2 0),0)
 else
  (Af (x7.toNat:Int)).bind λx16=>
  if x16 then
   (Bw n x2).bind λx19=>
   if !x19.2 then
    some ((dJ.mk 0 0 [] 0),101)
   else
    some ((dJ.mk 2 a1 x2 x19.1),0)
  else
   iG (0<=a1/\a1<=(a0.length:Int)) <|
   (Ep n (a0.drop a1.toNat)).bind λx22=>
   if decide (x22=([]:cF)) then
    some ((dJ.mk 0 0 [] 0),100)
   else
    some ((dJ.mk 3 a1 x22 0),0)
@[go_sem] def An (n:Nat) (a0:cF):Nat->(List dJ)->Int->Option ((List dJ) ⊕ ((List dJ) × Int × Int))
 | 0,_,_=>none
 | c8+1,v5,v6=>
   if decide (v6<(a0.length:Int)) then
    (Eq n a0 v6).bind λx13=>
    if x13.2 != 0 then
     some (.inr ([],x13.2,v6))
    else
     iG (v5.length+[x13.1].length<=1073741824) <|
     (BZ n a0 (i64.wrap (v6+(x13.1.cY.length:Int)))).bind λx20=>
     An n a0 c8 (v5++[x13.1]) x20
   else
    some (.inl v5)
def Ae (n:Nat) (a0:cF):Option ((List dJ) × Int × Int):=
 if decide (65536<(a0.length:Int)) then
  some ([],161,0)
 else
  (BZ n a0 0).bind λx2=>
  (An n a0 n [] x2).bind λy7=>
  y7.elim (λy7a=>
   iG (y7a.length+[(dJ.mk 4 (a0.length:Int) [] 0)].length<=1073741824) <|
   some ((y7a++[(dJ.mk 4 (a0.length:Int) [] 0)]),0,0)) (λy7a=>
   some y7a)
def dM (a0:aE):Option dJ:=
 (bL a0.l_ a0.gE).bind λx2=>
 some x2
def gY (a0:aE) (a1:Int):Option aE:=
 if a0.e_ == 0 then
  (dM a0).bind λx2=>
  some ({ a0 with e_:=a1,Dl:=x2.fG }:aE)
 else
  some a0
def eT (a0:aE) (a1:Int):Option (aD × aE):=
 if decide (16384<(i64.wrap (a0.Ad+1))) then
  (gY ({ a0 with Ad:=(i64.wrap (a0.Ad+1)) }:aE) 136).bind λx3=>
  (dM x3).bind λx5=>
  some ((aD.mk a1 x5.fG [] 0 []),x3)
 else
  (dM ({ a0 with Ad:=(i64.wrap (a0.Ad+1)) }:aE)).bind λx7=>
  some ((aD.mk a1 x7.fG [] 0 []),({ a0 with Ad:=(i64.wrap (a0.Ad+1)) }:aE))
@[go_sem] def lC (a0:(List cF)) (a1:cF):Nat->Int->Option (Unit ⊕ Int)
 | 0,_=>none
 | c4+1,v2=>
   if decide (v2<(a0.length:Int)) then
    (bL a0 v2).bind λx9=>
    if decide (a1=x9) then
     some (.inr v2)
    else
     lC a0 a1 c4 (i64.wrap (v2+1))
   else
    some (.inl ())
def kE (n:Nat) (a0:(List cF)) (a1:cF):Option Int:=
 (lC a0 a1 n 0).bind λy3=>
 y3.elim (λy3a=>
  some (-1:Int)) (λy3a=>
  some y3a)
def iP (n:Nat) (a0:(List cF)) (a1:cF):Option Bool:=
 (kE n a0 a1).bind λx1=>
 some (decide (0<=x1))
def wS (n:Nat) (a0:cF):Option Bool:=
 (iP n cD a0).bind λx1=>
 some x1
def jA (n:Nat) (a0:aE) (a1:cF):Option Bool:=
 (dM a0).bind λx1=>
 (if a0.e_ == 0 then
    if decide (x1.cY=a1) then
     if x1.bS == 3 then
      some true
     else
      if x1.bS == 1 then
       (wS n a1).bind λx9=>
       some x9
      else
       some false
    else
     some false
   else
    some false).bind λy4=>
 some y4
def bV (n:Nat) (a0:aE) (a1:cF):Option (Bool × aE):=
 (jA n a0 a1).bind λx1=>
 if !x1 then
  some (false,a0)
 else
  some (true,({ a0 with gE:=(i64.wrap (a0.gE+1)) }:aE))
def bR (n:Nat) (a0:aE) (a1:cF):Option aE:=
 (bV n a0 a1).bind λx1=>
 if !x1.1 then
  (gY x1.2 110).bind λx4=>
  some x4
 else
  some x1.2
def eE (n:Nat) (a0:aE):Option (cF × aE):=
 (dM a0).bind λx1=>
 (if a0.e_ != 0 then
    some true
   else
    if x1.bS != 1 then
     some true
    else
     (wS n x1.cY).bind λx7=>
     some x7).bind λy4=>
 if y4 then
  (gY a0 110).bind λx13=>
  some (([]:cF),x13)
 else
  some (x1.cY,({ a0 with gE:=(i64.wrap (a0.gE+1)) }:aE))
def kO (a0:aE):Option (Int × aE):=
 (dM a0).bind λx1=>
 (if a0.e_ != 0 then
    some true
   else
    some (x1.bS != 2)).bind λy4=>
 if y4 then
  (gY a0 110).bind λx10=>
  some (0,x10)
 else
  some (x1.oR,({ a0 with gE:=(i64.wrap (a0.gE+1)) }:aE))
def mG (n:Nat) (a0:aE):Option (Int × aE):=
 (bR n a0 ([91]:cF)).bind λx1=>
 (kO x1).bind λx3=>
 (bR n x3.2 ([93]:cF)).bind λx5=>
 some (x3.1,x5)
def kW:List cF:=[([112,117,98]:cF),([117,51,50]:cF),([117,54,52]:cF)]
@[go_sem] def qE (n:Nat):Nat->Int->aE->aD->aD->Option ((aE × aD × aD) ⊕ (aD × aE))
 | 0,_,_,_,_=>none
 | c15+1,v10,v11,v12,v13=>
   if decide (v10<3) then
    (bL kW v10).bind λx20=>
    (bV n v11 x20).bind λx29=>
    if x29.1=true then
     some (.inr (({ v13 with oR:=(u32.wrap (i64.wrap (1+v10))) }:aD),x29.2))
    else
     qE n c15 (i64.wrap (v10+1)) x29.2 v12 v13
   else
    some (.inl (v11,v12,v13))
def nK (n:Nat) (a0:aE):Option (aD × aE):=
 (eT a0 3).bind λx2=>
 (eE n x2.2).bind λx5=>
 (bR n x5.2 ([58]:cF)).bind λx7=>
 (qE n n 0 x7 (aD.mk 0 0 [] 0 []) ({ x2.1 with cY:=x5.1 }:aD)).bind λy14=>
 y14.elim (λy14a=>
  (eT y14a.1 14).bind λx37=>
  (mG n x37.2).bind λx40=>
  some (({ y14a.2.2 with oR:=4,aO:=[({ x37.1 with oR:=x40.1 }:aD)] }:aD),x40.2)) (λy14a=>
  some y14a)
@[go_sem] def mM (n:Nat):Nat->(List aD)->aE->Option ((List aD) × aE)
 | 0,_,_=>none
 | c11+1,v8,v9=>
   if v9.e_ == 0 then
    (nK n v9).bind λx16=>
    iG (v8.length+[x16.1].length<=1073741824) <|
    (bV n x16.2 ([44]:cF)).bind λx21=>
    if !x21.1 then
     some ((v8++[x16.1]),x21.2)
    else
     mM n c11 (v8++[x16.1]) x21.2
   else
    some (v8,v9)
def fP (n:Nat) (a0:aE):Option ((List aD) × aE):=
 (bR n a0 ([40]:cF)).bind λx1=>
 (bV n x1 ([41]:cF)).bind λx3=>
 if x3.1=true then
  some ([],x3.2)
 else
  ((mM n n [] x3.2).bind λy10=>
    some (y10.1,y10.2)).bind λy6=>
  (bR n y6.2 ([41]:cF)).bind λx27=>
  some (y6.1,x27)
def mI (a0:aE) (a1:Int):Option aE:=
 if decide (64<a1) then
  (gY a0 111).bind λx2=>
  some x2
 else
  some a0
@[go_sem] def lU (n:Nat) (x1:(List cF)) (a0:aE):Nat->Int->Option (Unit ⊕ cF)
 | 0,_=>none
 | c15+1,v13=>
   if decide (v13<3) then
    (bL x1 v13).bind λx20=>
    (if decide (x20 ≠ ([]:cF)) then
       (jA n a0 x20).bind λx31=>
       some x31
      else
       some false).bind λy29=>
    if y29 then
     some (.inr x20)
    else
     lU n x1 a0 c15 (i64.wrap (v13+1))
   else
    some (.inl ())
def mH (n:Nat) (a0:aE) (a1:Int):Option cF:=
 (bL cU a1).bind λx1=>
 (lU n x1 a0 n 0).bind λy14=>
 y14.elim (λy14a=>
  some ([]:cF)) (λy14a=>
  some y14a)
@[go_sem] def fO (eX:aE->Int->Option (aD × aE)) (n:Nat) (a1:Int):Nat->(List aD)->aE->Option ((List aD) × aE)
 | 0,_,_=>none
 | c11+1,v8,v9=>
   if v9.e_ == 0 then
    (eX v9 a1).bind λx16=>
    iG (v8.length+[x16.1].length<=1073741824) <|
    (bV n x16.2 ([44]:cF)).bind λx21=>
    if !x21.1 then
     some ((v8++[x16.1]),x21.2)
    else
     fO eX n a1 c11 (v8++[x16.1]) x21.2
   else
    some (v8,v9)
def iI (eX:aE->Int->Option (aD × aE)) (n:Nat) (a0:aE) (a1:Int):Option ((List aD) × aE):=
 (bR n a0 ([40]:cF)).bind λx1=>
 (bV n x1 ([41]:cF)).bind λx3=>
 if x3.1=true then
  some ([],x3.2)
 else
  ((fO eX n a1 n [] x3.2).bind λy10=>
    some (y10.1,y10.2)).bind λy6=>
  (bR n y6.2 ([41]:cF)).bind λx27=>
  some (y6.1,x27)
def pE (cQ:aE->Int->Int->Option (aD × aE)) (n:Nat) (a0:aE) (a1:Int):Option (aD × aE):=
 (cQ a0 0 a1).bind λx2=>
 some (x2.1,x2.2)
@[go_sem] def qG (cQ:aE->Int->Int->Option (aD × aE)) (n:Nat) (a1:Int) (a2:Int):Nat->cF->aE->aD->Option (aE × aD)
 | 0,_,_,_=>none
 | c15+1,v11,v12,v13=>
   if decide (v11 ≠ ([]:cF)) then
    (eT v12 19).bind λx20=>
    (bR n x20.2 v11).bind λx23=>
    (cQ x23 (i64.wrap (a1+1)) a2).bind λx25=>
    if a1 == 3 then
     some (x25.2,({ x20.1 with cY:=v11,aO:=[v13,x25.1] }:aD))
    else
     (mH n x25.2 a1).bind λx28=>
     qG cQ n a1 a2 c15 x28 x25.2 ({ x20.1 with cY:=v11,aO:=[v13,x25.1] }:aD)
   else
    some (v12,v13)
def oG (cP:aE->Int->Option (aD × aE)) (cQ:aE->Int->Int->Option (aD × aE)) (n:Nat) (a0:aE) (a1:Int) (a2:Int):Option (aD × aE):=
 if a1 == 7 then
  (cP a0 a2).bind λx3=>
  some (x3.1,x3.2)
 else
  (cQ a0 (i64.wrap (a1+1)) a2).bind λx5=>
  (mH n x5.2 a1).bind λx8=>
  (qG cQ n a1 a2 n x8 x5.2 x5.1).bind λy14=>
  some (y14.2,y14.1)
def iC:List cF:=[([126]:cF),([45]:cF)]
@[go_sem] def oX (cP:aE->Int->Option (aD × aE)) (n:Nat) (a1:Int):Nat->Int->aE->aD->aD->Option ((aE × aD × aD) ⊕ (aD × aE))
 | 0,_,_,_,_=>none
 | c23+1,v18,v19,v20,v21=>
   if decide (v18<2) then
    (bL iC v18).bind λx28=>
    (bV n v19 x28).bind λx37=>
    if x37.1=true then
     (cP x37.2 (i64.wrap (a1+1))).bind λx40=>
     some (.inr (({ v20 with bS:=18,cY:=x28,aO:=[x40.1] }:aD),x40.2))
    else
     oX cP n a1 c23 (i64.wrap (v18+1)) x37.2 v20 v21
   else
    some (.inl (v19,v20,v21))
def mS (dT:aE->Int->Option (aD × aE)) (cP:aE->Int->Option (aD × aE)) (gP:aE->Int->Option ((List aD) × aE)) (n:Nat) (a0:aE) (a1:Int):Option (aD × aE):=
 (mI a0 a1).bind λx4=>
 (bV n x4 ([40]:cF)).bind λx6=>
 if x6.1=true then
  (dT x6.2 (i64.wrap (a1+1))).bind λx9=>
  (bR n x9.2 ([41]:cF)).bind λx12=>
  some (x9.1,x12)
 else
  (eT x6.2 15).bind λx14=>
  (oX cP n a1 n 0 x14.2 x14.1 (aD.mk 0 0 [] 0 [])).bind λy22=>
  y22.elim (λy22a=>
   (if y22a.1.e_ == 0 then
      (dM y22a.1).bind λx72=>
      some (x72.bS == 2)
     else
      some false).bind λy70=>
   if y70 then
    (kO y22a.1).bind λx78=>
    some (({ y22a.2.1 with bS:=14,oR:=x78.1 }:aD),x78.2)
   else
    (eE n y22a.1).bind λx80=>
    ((jA n x80.2 ([40]:cF)).bind λx83=>
      if x83 then
       (gP x80.2 a1).bind λx86=>
       some (x86.2,({ y22a.2.1 with bS:=17,cY:=x80.1,aO:=x86.1 }:aD))
      else
       (bV n x80.2 ([91]:cF)).bind λx88=>
       if x88.1=true then
        (dT x88.2 (i64.wrap (a1+1))).bind λx91=>
        (bR n x91.2 ([93]:cF)).bind λx93=>
        some (x93,({ y22a.2.1 with bS:=16,cY:=x80.1,aO:=[x91.1] }:aD))
       else
        some (x88.2,({ y22a.2.1 with cY:=x80.1 }:aD))).bind λy82=>
    some (y82.2,y82.1)) (λy22a=>
   some y22a)
def lH (dT:aE->Int->Option (aD × aE)) (n:Nat) (a0:aE) (a1:Int):Option (aD × aE):=
 (dT a0 (i64.wrap (a1+1))).bind λx2=>
 some (x2.1,x2.2)
def bH:Nat->(aE->Int->Option ((List aD) × aE)) × (aE->Int->Option (aD × aE)) × (aE->Int->Int->Option (aD × aE)) × (aE->Int->Option (aD × aE)) × (aE->Int->Option (aD × aE))
 | 0=>(λ_ _=>none,λ_ _=>none,λ_ _ _=>none,λ_ _=>none,λ_ _=>none)
 | n+1=>(iI (bH n).2.2.2.2 n,pE (bH n).2.2.1 n,oG (bH n).2.2.2.1 (bH n).2.2.1 n,mS (bH n).2.1 (bH n).2.2.2.1 (bH n).1 n,lH (bH n).2.1 n)
def Ab (n:Nat):aE->Int->Option ((List aD) × aE):=(bH n).1
def eU (n:Nat):aE->Int->Option (aD × aE):=(bH n).2.1
def FW (n:Nat):aE->Int->Int->Option (aD × aE):=(bH n).2.2.1
def ER (n:Nat):aE->Int->Option (aD × aE):=(bH n).2.2.2.1
def Dt (n:Nat):aE->Int->Option (aD × aE):=(bH n).2.2.2.2
def lI (n:Nat) (a0:aE) (a1:aD) (a2:Int):Option (aD × aE):=
 (eE n a0).bind λx3=>
 (bR n x3.2 ([61]:cF)).bind λx5=>
 (eU n x5 a2).bind λx7=>
 (bR n x7.2 ([59]:cF)).bind λx9=>
 some (({ a1 with cY:=x3.1,aO:=[x7.1] }:aD),x9)
def oE (n:Nat) (a0:aE) (a1:Int):Option (aD × aE):=
 (eU n a0 (i64.wrap (a1+2))).bind λx2=>
 some (x2.1,x2.2)
@[go_sem] def gC (n:Nat) (a1:Int):Nat->(List aD)->aE->Option ((List aD) × aE)
 | 0,_,_=>none
 | c11+1,v8,v9=>
   if v9.e_ == 0 then
    (oE n v9 a1).bind λx16=>
    iG (v8.length+[x16.1].length<=1073741824) <|
    (bV n x16.2 ([44]:cF)).bind λx21=>
    if !x21.1 then
     some ((v8++[x16.1]),x21.2)
    else
     gC n a1 c11 (v8++[x16.1]) x21.2
   else
    some (v8,v9)
def iF (n:Nat) (a0:aE) (a1:Int):Option ((List aD) × aE):=
 (bR n a0 ([40]:cF)).bind λx1=>
 (bV n x1 ([41]:cF)).bind λx3=>
 if x3.1=true then
  some ([],x3.2)
 else
  ((gC n a1 n [] x3.2).bind λy10=>
    some (y10.1,y10.2)).bind λy6=>
  (bR n y6.2 ([41]:cF)).bind λx27=>
  some (y6.1,x27)
def nJ (n:Nat) (a0:aE) (a1:aD) (a2:Int):Option (aD × aE):=
 (eE n a0).bind λx5=>
 ((jA n x5.2 ([40]:cF)).bind λx8=>
   if x8 then
    (iF n x5.2 a2).bind λx11=>
    some (x11.2,({ a1 with bS:=10,cY:=x5.1,aO:=x11.1 }:aD))
   else
    (bV n x5.2 ([91]:cF)).bind λx13=>
    if x13.1=true then
     (eU n x13.2 (i64.wrap (a2+2))).bind λx16=>
     (bR n x16.2 ([93]:cF)).bind λx18=>
     (bR n x18 ([61]:cF)).bind λx20=>
     (eU n x20 (i64.wrap (a2+1))).bind λx22=>
     iG ([x16.1].length+[x22.1].length<=1073741824) <|
     some (x22.2,({ a1 with bS:=9,cY:=x5.1,aO:=([x16.1]++[x22.1]) }:aD))
    else
     (bR n x13.2 ([61]:cF)).bind λx25=>
     (eU n x25 (i64.wrap (a2+1))).bind λx27=>
     some (x27.2,({ a1 with cY:=x5.1,aO:=[x27.1] }:aD))).bind λy7=>
 (bR n y7.1 ([59]:cF)).bind λx32=>
 some (y7.2,x32)
@[go_sem] def nM (eW:aE->Int->Option (aD × aE)) (n:Nat) (a1:Int):Nat->aE->aD->Option (aE × aD)
 | 0,_,_=>none
 | c13+1,v10,v11=>
   (if v10.e_ == 0 then
      (jA n v10 ([125]:cF)).bind λx19=>
      some (!x19)
     else
      some false).bind λy17=>
   if y17 then
    (eW v10 a1).bind λx25=>
    iG (v11.aO.length+[x25.1].length<=1073741824) <|
    nM eW n a1 c13 x25.2 ({ v11 with aO:=(v11.aO++[x25.1]) }:aD)
   else
    some (v10,v11)
def oH (eW:aE->Int->Option (aD × aE)) (n:Nat) (a0:aE) (a1:Int):Option (aD × aE):=
 (mI a0 a1).bind λx2=>
 (eT x2 4).bind λx4=>
 (bR n x4.2 ([123]:cF)).bind λx7=>
 (nM eW n a1 n x7 x4.1).bind λy12=>
 (bR n y12.1 ([125]:cF)).bind λx32=>
 some (y12.2,x32)
def lG (mC:aE->aD->Int->Option (aD × aE)) (nI:aE->aD->Int->Option (aD × aE)) (n:Nat) (a0:aE) (a1:Int):Option (aD × aE):=
 (eT a0 8).bind λx2=>
 ((bV n x2.2 ([108,101,116]:cF)).bind λx6=>
   if x6.1=true then
    (lI n x6.2 ({ x2.1 with bS:=5 }:aD) (i64.wrap (a1+1))).bind λx9=>
    some (.inr (x9.1,x9.2))
   else
    (bV n x6.2 ([118,97,114]:cF)).bind λx11=>
    if x11.1=true then
     (lI n x11.2 ({ x2.1 with bS:=6 }:aD) (i64.wrap (a1+1))).bind λx14=>
     some (.inr (x14.1,x14.2))
    else
     (bV n x11.2 ([97,114,114]:cF)).bind λx16=>
     if x16.1=true then
      (eE n x16.2).bind λx19=>
      (mG n x19.2).bind λx21=>
      some (.inl (x21.2,({ x2.1 with bS:=7,cY:=x19.1,oR:=x21.1 }:aD)))
     else
      (bV n x16.2 ([114,101,116,117,114,110]:cF)).bind λx23=>
      if x23.1=true then
       (eU n x23.2 (i64.wrap (a1+1))).bind λx26=>
       some (.inl (x26.2,({ x2.1 with bS:=13,aO:=[x26.1] }:aD)))
      else
       (bV n x23.2 ([105,102]:cF)).bind λx28=>
       if x28.1=true then
        (mC x28.2 x2.1 a1).bind λx31=>
        some (.inr (x31.1,x31.2))
       else
        (bV n x28.2 ([102,111,114]:cF)).bind λx33=>
        if x33.1=true then
         (nI x33.2 x2.1 a1).bind λx36=>
         some (.inr (x36.1,x36.2))
        else
         (nJ n x33.2 x2.1 a1).bind λx38=>
         some (.inr (x38.1,x38.2)):Option ((aE × aD) ⊕ (aD × aE))).bind λy5=>
 y5.elim (λy5a=>
  (bR n y5a.1 ([59]:cF)).bind λx43=>
  some (y5a.2,x43)) (λy5a=>
  some y5a)
def nL (dO:aE->Int->Option (aD × aE)) (n:Nat) (a0:aE) (a1:aD) (a2:Int):Option (aD × aE):=
 (eU n a0 (i64.wrap (a2+1))).bind λx3=>
 (dO x3.2 (i64.wrap (a2+1))).bind λx5=>
 iG ([x3.1].length+[x5.1].length<=1073741824) <|
 (bV n x5.2 ([101,108,115,101]:cF)).bind λx8=>
 if x8.1=true then
  (dO x8.2 (i64.wrap (a2+1))).bind λx11=>
  iG (([x3.1]++[x5.1]).length+[x11.1].length<=1073741824) <|
  some (({ a1 with bS:=11,aO:=(([x3.1]++[x5.1])++[x11.1]) }:aD),x11.2)
 else
  some (({ a1 with bS:=11,aO:=([x3.1]++[x5.1]) }:aD),x8.2)
def pD (dO:aE->Int->Option (aD × aE)) (n:Nat) (a0:aE) (a1:aD) (a2:Int):Option (aD × aE):=
 (eE n a0).bind λx3=>
 (bR n x3.2 ([105,110]:cF)).bind λx5=>
 (eU n x5 (i64.wrap (a2+1))).bind λx7=>
 (bR n x7.2 ([46,46]:cF)).bind λx9=>
 (eU n x9 (i64.wrap (a2+1))).bind λx11=>
 iG ([x7.1].length+[x11.1].length<=1073741824) <|
 (dO x11.2 (i64.wrap (a2+1))).bind λx14=>
 iG (([x7.1]++[x11.1]).length+[x14.1].length<=1073741824) <|
 some (({ a1 with bS:=12,cY:=x3.1,aO:=(([x7.1]++[x11.1])++[x14.1]) }:aD),x14.2)
def dD:Nat->(aE->Int->Option (aD × aE)) × (aE->Int->Option (aD × aE)) × (aE->aD->Int->Option (aD × aE)) × (aE->aD->Int->Option (aD × aE))
 | 0=>(λ_ _=>none,λ_ _=>none,λ_ _ _=>none,λ_ _ _=>none)
 | n+1=>(oH (dD n).2.1 n,lG (dD n).2.2.1 (dD n).2.2.2 n,nL (dD n).1 n,pD (dD n).1 n)
def eH (n:Nat):aE->Int->Option (aD × aE):=(dD n).1
def Dr (n:Nat):aE->Int->Option (aD × aE):=(dD n).2.1
def Fy (n:Nat):aE->aD->Int->Option (aD × aE):=(dD n).2.2.1
def GJ (n:Nat):aE->aD->Int->Option (aD × aE):=(dD n).2.2.2
def kX (n:Nat) (a0:aE):Option (aD × aE):=
 (eT a0 2).bind λx2=>
 (bV n x2.2 ([101,120,112,111,114,116]:cF)).bind λx5=>
 if x5.1=true then
  (bR n x5.2 ([102,110]:cF)).bind λx8=>
  (eE n x8).bind λx10=>
  (fP n x10.2).bind λx12=>
  (bV n x12.2 ([45,62]:cF)).bind λx14=>
  if x14.1=true then
   (bV n x14.2 ([117,51,50]:cF)).bind λx17=>
   if x17.1=true then
    (eH n x17.2 1).bind λx20=>
    iG (x12.1.length+[x20.1].length<=1073741824) <|
    some (({ x2.1 with cY:=x10.1,oR:=(orK .u32 1 2),aO:=(x12.1++[x20.1]) }:aD),x20.2)
   else
    (bR n x17.2 ([117,54,52]:cF)).bind λx25=>
    (eH n x25 1).bind λx27=>
    iG (x12.1.length+[x27.1].length<=1073741824) <|
    some (({ x2.1 with cY:=x10.1,oR:=(orK .u32 1 4),aO:=(x12.1++[x27.1]) }:aD),x27.2)
  else
   (eH n x14.2 1).bind λx32=>
   iG (x12.1.length+[x32.1].length<=1073741824) <|
   some (({ x2.1 with cY:=x10.1,oR:=1,aO:=(x12.1++[x32.1]) }:aD),x32.2)
 else
  (bR n x5.2 ([102,110]:cF)).bind λx37=>
  (eE n x37).bind λx39=>
  (fP n x39.2).bind λx41=>
  (bV n x41.2 ([45,62]:cF)).bind λx43=>
  if x43.1=true then
   (bV n x43.2 ([117,51,50]:cF)).bind λx46=>
   if x46.1=true then
    (eH n x46.2 1).bind λx49=>
    iG (x41.1.length+[x49.1].length<=1073741824) <|
    some (({ x2.1 with cY:=x39.1,oR:=(orK .u32 x2.1.oR 2),aO:=(x41.1++[x49.1]) }:aD),x49.2)
   else
    (bR n x46.2 ([117,54,52]:cF)).bind λx54=>
    (eH n x54 1).bind λx56=>
    iG (x41.1.length+[x56.1].length<=1073741824) <|
    some (({ x2.1 with cY:=x39.1,oR:=(orK .u32 x2.1.oR 4),aO:=(x41.1++[x56.1]) }:aD),x56.2)
  else
   (eH n x43.2 1).bind λx61=>
   iG (x41.1.length+[x61.1].length<=1073741824) <|
   some (({ x2.1 with cY:=x39.1,aO:=(x41.1++[x61.1]) }:aD),x61.2)
@[go_sem] def vE (n:Nat):Nat->aE->aD->Option (aE × aD)
 | 0,_,_=>none
 | c13+1,v10,v11=>
   (if v10.e_ == 0 then
      (dM v10).bind λx19=>
      some (x19.bS != 4)
     else
      some false).bind λy17=>
   if y17 then
    (kX n v10).bind λx25=>
    iG (v11.aO.length+[x25.1].length<=1073741824) <|
    vE n c13 x25.2 ({ v11 with aO:=(v11.aO++[x25.1]) }:aD)
   else
    some (v10,v11)
def Ax (n:Nat) (a0:cF):Option (aD × Int × Int):=
 (Ae n a0).bind λx2=>
 if x2.2.1 != 0 then
  some ((aD.mk 0 0 [] 0 []),x2.2.1,x2.2.2)
 else
  (eT (aE.mk x2.1 0 0 0 0) 1).bind λx6=>
  (vE n n x6.2 x6.1).bind λy12=>
  if y12.1.e_ != 0 then
   some ((aD.mk 0 0 [] 0 []),y12.1.e_,y12.1.Dl)
  else
   some (y12.2,0,0)
def pW (a0:aG) (a1:aH) (a2:Int) (a3:Int):Option aH:=
 if a1.e_ == 0 then
  some (aH.mk a2 a3)
 else
  some a1
def bC (a0:aG) (a1:aH) (a2:Bool) (a3:Int) (a4:Int):Option aH:=
 if !a2 then
  (pW a0 a1 a3 a4).bind λx2=>
  some x2
 else
  some a1
def AM (a0:aT) (a1:cF):Option Bool:=
 some (decide (a0.fX=a1))
@[go_sem] def cK (a0:(List aT)) (a1:cF):Nat->Int->Option (Unit ⊕ Int)
 | 0,_=>none
 | c4+1,v2=>
   if decide (v2<(a0.length:Int)) then
    (bL a0 v2).bind λx9=>
    (AM x9 a1).bind λx10=>
    if x10 then
     some (.inr v2)
    else
     cK a0 a1 c4 (i64.wrap (v2+1))
   else
    some (.inl ())
def fA (n:Nat) (a0:(List aT)) (a1:cF):Option Int:=
 (cK a0 a1 n 0).bind λy3=>
 y3.elim (λy3a=>
  some (-1:Int)) (λy3a=>
  some y3a)
def pM (n:Nat) (a0:bG) (a1:cF):Option (Int × Bool):=
 (fA n a0.bF a1).bind λx3=>
 some ((max x3 0),(decide (0<=x3)))
@[go_sem] def wJ (a0:cF):Nat->Int->Option (Unit ⊕ Int)
 | 0,_=>none
 | c4+1,v2=>
   if decide (v2<5) then
    (bL cM v2).bind λx9=>
    if decide (x9.QF=a0) then
     some (.inr x9.QZ)
    else
     wJ a0 c4 (i64.wrap (v2+1))
   else
    some (.inl ())
def vI (n:Nat) (a0:cF):Option Int:=
 (wJ a0 n 0).bind λy3=>
 y3.elim (λy3a=>
  some 0) (λy3a=>
  some y3a)
def yY (a0:Int):Option Int:=
 if (wU .u32 a0 2) != 0 then
  some 2
 else
  if (wU .u32 a0 4) != 0 then
   some 3
  else
   some 0
@[go_sem] def kL (n:Nat) (a2:aD):Nat->Int->aG->aH->Option (aG × aH)
 | 0,_,_,_=>none
 | c9+1,v5,v6,v7=>
   if decide (v5<(a2.aO.length:Int)) then
    (bL a2.aO v5).bind λx14=>
    (pM n v6.p_ x14.cY).bind λx20=>
    (if !x20.2 then
       (vI n x14.cY).bind λx25=>
       (bC v6 v7 (x25 == 0) 131 x14.fG).bind λx26=>
       some x26
      else
       (bC v6 v7 false 131 x14.fG).bind λx29=>
       some x29).bind λy23=>
    (yY x14.oR).bind λx34=>
    iG (v6.f_<0) <|
    iG (v6.p_.bF.length+1<=1073741824) <|
    kL n a2 c9 (i64.wrap (v5+1)) ({ v6 with p_:=⟨(v6.p_.bF++[(aT.mk x14.cY ((wU .u32 x14.oR 1) != 0) x34 0 [] [])])⟩ }:aG) y23
   else
    some (v6,v7)
def pF (n:Nat) (a0:aG) (a1:aH) (a2:aD):Option (aG × aH):=
 (bC a0 a1 (decide ((a2.aO.length:Int)<=64)) 136 a2.fG).bind λx2=>
 (kL n a2 n 0 a0 x2).bind λy8=>
 iG (0<=(a2.aO.length:Int)/\(a2.aO.length:Int)<=1073741824) <|
 some (({ y8.1 with cC:=(List.replicate a2.aO.length []) }:aG),y8.2)
@[go_sem] def oS (a0:aT):Nat->Int->Int->Option Int
 | 0,_,_=>none
 | c8+1,v5,v6=>
   if decide (v6<((a0.aW.take a0.bB.toNat).length:Int)) then
    ((bL (a0.aW.take a0.bB.toNat) v6).bind λx14=>
      if x14.bS == 3 then
       some (i64.wrap ((i64.wrap (v5+(i64.wrap ((v5.tmod 2)+1))))+1))
      else
       some (i64.wrap (v5+1))).bind λy13=>
    oS a0 c8 y13 (i64.wrap (v6+1))
   else
    some v5
def tJ (n:Nat) (a0:aT):Option Int:=
 iG (0<=a0.bB/\a0.bB<=(a0.aW.length:Int)) <|
 (oS a0 n 0 0).bind λy7=>
 some y7
@[go_sem] def iM (x1:aT):Nat->Int->aG->Option aG
 | 0,_,_=>none
 | c31+1,v28,v29=>
   if decide (v28<x1.bB) then
    iG (v29.bI.length+1<=1073741824) <|
    iM x1 c31 (i64.wrap (v28+1)) ({ v29 with bI:=(v29.bI++[v28]) }:aG)
   else
    some v29
def mP (n:Nat) (a0:aG) (a1:aH) (a2:Int):Option (aG × aH):=
 (bL a0.p_.bF a2).bind λx1=>
 (iM x1 n 0 ({ a0 with f_:=a2,bI:=[],gE:=a2 }:aG)).bind λy30=>
 some (y30,a1)
def xM (a0:Int):Option Bool:=
 (if decide (1<=a0) then
    if decide (a0<=255) then
     some true
    else
     if decide (255<a0) then
      if decide (a0<=1024) then
       some ((a0.tmod 4) == 0)
      else
       some false
     else
      some false
   else
    if decide (255<a0) then
     if decide (a0<=1024) then
      some ((a0.tmod 4) == 0)
     else
      some false
    else
     some false).bind λy1=>
 some y1
@[go_sem] def kZ (a0:aG) (a2:cF):Nat->Int->Option (Unit ⊕ Int)
 | 0,_=>none
 | c5+1,v3=>
   if decide (0<=v3) then
    (bL a0.p_.bF a0.f_).bind λx10=>
    (bL a0.bI v3).bind λx13=>
    (bL x10.aW x13).bind λx14=>
    if decide (x14.fX=a2) then
     some (.inr x13)
    else
     kZ a0 a2 c5 (i64.wrap (v3 - 1))
   else
    some (.inl ())
def lN (n:Nat) (a0:aG) (a1:aH) (a2:cF):Option Int:=
 (kZ a0 a2 n (i64.wrap ((a0.bI.length:Int) - 1))).bind λy4=>
 y4.elim (λy4a=>
  some (-1:Int)) (λy4a=>
  some y4a)
def eI (n:Nat) (a0:aG) (a1:aH) (a2:aM) (a3:Int):Option (Int × aG × aH):=
 (lN n a0 a1 a2.fX).bind λx2=>
 (bC a0 a1 (decide (x2<0)) 131 a3).bind λx3=>
 (bL a0.p_.bF a0.f_).bind λx6=>
 (bC a0 x3 (decide ((x6.aW.length:Int)<250)) 136 a3).bind λx9=>
 if x9.e_ != 0 then
  some ((-1:Int),a0,x9)
 else
  iG (x6.aW.length+1<=1073741824) <|
  iG (a0.bI.length+1<=1073741824) <|
  some ((x6.aW.length:Int),({ a0 with p_:=⟨(a0.p_.bF.set a0.f_.toNat { x6 with aW:=(x6.aW++[a2]) })⟩,bI:=(a0.bI++[(x6.aW.length:Int)]) }:aG),x9)
@[go_sem] def jM (n:Nat) (a2:(List aD)):Nat->Int->aG->aH->Option (aG × aH)
 | 0,_,_,_=>none
 | c6+1,v2,v3,v4=>
   if decide (v2<(a2.length:Int)) then
    ((bL a2 v2).bind λx12=>
      (if (i64.wrap x12.oR) == 4 then
         some (decide (0<(x12.aO.length:Int)))
        else
         some false).bind λy19=>
      if y19 then
       (bL x12.aO 0).bind λx25=>
       (xM (i64.wrap x25.oR)).bind λx31=>
       (bC v3 v4 x31 136 x12.fG).bind λx32=>
       (eI n v3 x32 (aM.mk x12.cY (i64.wrap x12.oR) (i64.wrap x25.oR)) x12.fG).bind λx35=>
       some (x35.2.1,x35.2.2)
      else
       (eI n v3 v4 (aM.mk x12.cY (i64.wrap x12.oR) 0) x12.fG).bind λx37=>
       some (x37.2.1,x37.2.2)).bind λy11=>
    jM n a2 c6 (i64.wrap (v2+1)) y11.1 y11.2
   else
    some (v3,v4)
def rA (n:Nat) (a0:aG) (a1:aH) (a2:(List aD)):Option (aG × aH):=
 (jM n a2 n 0 a0 a1).bind λy5=>
 (bL y5.1.p_.bF y5.1.f_).bind λx61=>
 some (({ y5.1 with p_:=⟨(y5.1.p_.bF.set y5.1.f_.toNat { x61 with bB:=(x61.aW.length:Int) })⟩ }:aG),y5.2)
def lM (n:Nat) (a0:aG) (a1:aH) (a2:Int) (a3:aD):Option (aG × aH):=
 (mP n a0 a1 a2).bind λx2=>
 iG (0<=(max (i64.wrap ((a3.aO.length:Int) - 1)) 0)/\(max (i64.wrap ((a3.aO.length:Int) - 1)) 0)<=(a3.aO.length:Int)) <|
 (rA n x2.1 x2.2 (a3.aO.take (max (i64.wrap ((a3.aO.length:Int) - 1)) 0).toNat)).bind λx4=>
 if x4.2.e_ == 0 then
  ((bL x4.1.p_.bF x4.1.f_).bind λx10=>
    if !x10.dK then
     (bC x4.1 x4.2 true 136 a3.fG).bind λx27=>
     some x27
    else
     (tJ n x10).bind λx29=>
     (bC x4.1 x4.2 (decide (x29<=4)) 136 a3.fG).bind λx30=>
     some x30).bind λy9=>
  some (x4.1,y9)
 else
  some (x4.1,x4.2)
def eY (a0:aG) (a1:aH) (a2:Int):Option Int:=
 if decide (a2<0) then
  some 0
 else
  (bL a0.p_.bF a0.f_).bind λx2=>
  (bL x2.aW a2).bind λx5=>
  some x5.bS
def gI (n:Nat) (a0:aG) (a1:aH) (a2:aD):Option (Int × aH):=
 (lN n a0 a1 a2.cY).bind λx2=>
 (bC a0 a1 (decide (0<=x2)) 130 a2.fG).bind λx4=>
 some (x2,x4)
def uC (a0:Int) (a1:Int):Option Int:=
 (if a0 == a1 then
    if decide (1<=a0) then
     some (decide (a0<=3))
    else
     some false
   else
    some false).bind λy1=>
 if y1 then
  some a0
 else
  (if a0 == 1 then
     if a1 == 2 then
      some true
     else
      if a0 == 2 then
       some (a1 == 1)
      else
       some false
    else
     if a0 == 2 then
      some (a1 == 1)
     else
      some false).bind λy8=>
  if y8 then
   some 2
  else
   some 0
def cG (a0:aG) (a1:aH) (a2:aF) (a3:Int):Option (aF × aH):=
 (bC a0 a1 (a3 != 0) 132 a2.fG).bind λx3=>
 some (({ a2 with cL:=a3 }:aF),x3)
def gU (a0:aG) (a1:aH) (a2:aF) (a3:aF) (a4:aF):Option (aF × aH):=
 (bC a0 a1 (a4.cL == 1) 133 a4.fG).bind λx5=>
 if a3.cL == 3 then
  (if decide (a4.gA=([110,117,109]:cF)) then
     (bC a0 x5 (decide (a4.N_<=63)) 132 a2.fG).bind λx10=>
     some x10
    else
     (bC a0 x5 false 132 a2.fG).bind λx12=>
     some x12).bind λy8=>
  (cG a0 y8 a2 a3.cL).bind λx17=>
  some (x17.1,x17.2)
 else
  (cG a0 x5 a2 a3.cL).bind λx19=>
  some (x19.1,x19.2)
def uA (a0:Int):Option Int:=
 if a0 == 1 then
  some 2
 else
  some a0
def rG (a0:Int):Option Bool:=
 (if a0 == 1 then
    some true
   else
    some (a0 == 2)).bind λy1=>
 some y1
def lW (a0:aG) (a1:aH) (a2:aF):Option Int:=
 (bL a2.aO 1).bind λx2=>
 (bL a2.aO 2).bind λx3=>
 (uC x2.cL x3.cL).bind λx4=>
 ((bL a2.aO 0).bind λx17=>
   (rG x17.cL).bind λx18=>
   if !x18 then
    some true
   else
    some (x4 == 0)).bind λy16=>
 if y16 then
  some 0
 else
  (uA x4).bind λx30=>
  some x30
def oN (mR:aG->aH->aD->aF->Option (aF × aH)) (mD:aG->aH->aD->aF->Option (aF × aH)) (lF:aG->aH->aD->aF->Option (aF × aH)) (kS:aG->aH->aD->aF->Option (aF × aH)) (n:Nat) (a0:aG) (a1:aH) (a2:aD):Option (aF × aH):=
 if a2.bS == 14 then
  some ((aF.mk ([110,117,109]:cF) 1 a2.oR (-1:Int) [] a2.fG),a1)
 else
  if a2.bS == 15 then
   (gI n a0 a1 a2).bind λx6=>
   (eY a0 x6.2 x6.1).bind λx8=>
   (bC a0 x6.2 (x8 != 4) 132 a2.fG).bind λx10=>
   some ((aF.mk ([118,97,114]:cF) x8 0 x6.1 [] a2.fG),x10)
  else
   if a2.bS == 16 then
    (mR a0 a1 a2 (aF.mk [] 0 0 (-1:Int) [] a2.fG)).bind λx13=>
    some (x13.1,x13.2)
   else
    if a2.bS == 18 then
     (mD a0 a1 a2 (aF.mk [] 0 0 (-1:Int) [] a2.fG)).bind λx16=>
     some (x16.1,x16.2)
    else
     if a2.bS == 19 then
      (lF a0 a1 a2 (aF.mk [] 0 0 (-1:Int) [] a2.fG)).bind λx19=>
      some (x19.1,x19.2)
     else
      (kS a0 a1 a2 (aF.mk [] 0 0 (-1:Int) [] a2.fG)).bind λx21=>
      some (x21.1,x21.2)
def oM (dC:aG->aH->aD->Option (aF × aH)) (n:Nat) (a0:aG) (a1:aH) (a2:aD) (a3:aF):Option (aF × aH):=
 (bL a2.aO 0).bind λx4=>
 (dC a0 a1 x4).bind λx5=>
 (gI n a0 x5.2 a2).bind λx13=>
 (eY a0 x13.2 x13.1).bind λx15=>
 (bC a0 x13.2 (x15 == 4) 132 a2.fG).bind λx16=>
 (bC a0 x16 (x5.1.cL == 1) 133 x5.1.fG).bind λx19=>
 (if x19.e_ == 0 then
    some (decide (x5.1.gA=([110,117,109]:cF)))
   else
    some false).bind λy21=>
 if y21 then
  (bL a0.p_.bF a0.f_).bind λx27=>
  (bL x27.aW x13.1).bind λx30=>
  (bC a0 x19 (decide ((i64.wrap x5.1.N_)<x30.qV)) 137 x5.1.fG).bind λx31=>
  some (({ a3 with gA:=([105,110,100,101,120]:cF),cL:=2,fF:=x13.1,aO:=[x5.1] }:aF),x31)
 else
  some (({ a3 with gA:=([105,110,100,101,120]:cF),cL:=2,fF:=x13.1,aO:=[x5.1] }:aF),x19)
def nP (cN:aG->aH->(List aD)->Option ((List aF) × aH)) (n:Nat) (a0:aG) (a1:aH) (a2:aD) (a3:aF):Option (aF × aH):=
 (cN a0 a1 a2.aO).bind λx4=>
 if decide (a2.cY=([45]:cF)) then
  (bL x4.1 0).bind λx7=>
  some (({ a3 with gA:=([110,101,103]:cF),cL:=x7.cL,aO:=x4.1 }:aF),x4.2)
 else
  (bL x4.1 0).bind λx13=>
  some (({ a3 with gA:=([110,111,116]:cF),cL:=x13.cL,aO:=x4.1 }:aF),x4.2)
def mW (cN:aG->aH->(List aD)->Option ((List aF) × aH)) (n:Nat) (a0:aG) (a1:aH) (a2:aD) (a3:aF):Option (aF × aH):=
 (cN a0 a1 a2.aO).bind λx4=>
 (bL x4.1 0).bind λx6=>
 (bL x4.1 1).bind λx9=>
 (uC x6.cL x9.cL).bind λx20=>
 if decide (a2.cY=([47]:cF)) then
  (bC a0 x4.2 (x6.cL == 1) 133 x6.fG).bind λx23=>
  (bC a0 x23 (x9.cL == 1) 133 x9.fG).bind λx25=>
  (cG a0 x25 ({ a3 with gA:=a2.cY,aO:=x4.1 }:aF) 1).bind λx27=>
  some (x27.1,x27.2)
 else
  if decide (a2.cY=([37]:cF)) then
   (bC a0 x4.2 (x6.cL == 1) 133 x6.fG).bind λx30=>
   (bC a0 x30 (x9.cL == 1) 133 x9.fG).bind λx32=>
   (cG a0 x32 ({ a3 with gA:=a2.cY,aO:=x4.1 }:aF) 1).bind λx34=>
   some (x34.1,x34.2)
  else
   if decide (a2.cY=([60,60]:cF)) then
    (gU a0 x4.2 ({ a3 with gA:=a2.cY,aO:=x4.1 }:aF) x6 x9).bind λx37=>
    some (x37.1,x37.2)
   else
    if decide (a2.cY=([62,62]:cF)) then
     (gU a0 x4.2 ({ a3 with gA:=a2.cY,aO:=x4.1 }:aF) x6 x9).bind λx40=>
     some (x40.1,x40.2)
    else
     if decide (a2.cY=([60,60,60]:cF)) then
      (gU a0 x4.2 ({ a3 with gA:=a2.cY,aO:=x4.1 }:aF) x6 x9).bind λx43=>
      some (x43.1,x43.2)
     else
      if decide (a2.cY=([42]:cF)) then
       (bC a0 x4.2 (x20 != 3) 132 a2.fG).bind λx46=>
       (cG a0 x46 ({ a3 with gA:=a2.cY,aO:=x4.1 }:aF) x20).bind λx48=>
       some (x48.1,x48.2)
      else
       if decide (a2.cY=([61,61]:cF)) then
        if x20 == 3 then
         (cG a0 x4.2 ({ a3 with gA:=a2.cY,aO:=x4.1 }:aF) 2).bind λx52=>
         some (x52.1,x52.2)
        else
         (cG a0 x4.2 ({ a3 with gA:=a2.cY,aO:=x4.1 }:aF) x20).bind λx54=>
         some (x54.1,x54.2)
       else
        if decide (a2.cY=([60]:cF)) then
         if x20 == 3 then
          (cG a0 x4.2 ({ a3 with gA:=a2.cY,aO:=x4.1 }:aF) 2).bind λx58=>
          some (x58.1,x58.2)
         else
          (cG a0 x4.2 ({ a3 with gA:=a2.cY,aO:=x4.1 }:aF) x20).bind λx60=>
          some (x60.1,x60.2)
        else
         (cG a0 x4.2 ({ a3 with gA:=a2.cY,aO:=x4.1 }:aF) x20).bind λx62=>
         some (x62.1,x62.2)
def mE (cN:aG->aH->(List aD)->Option ((List aF) × aH)) (n:Nat) (a0:aG) (a1:aH) (a2:aD) (a3:aF):Option (aF × aH):=
 (vI n a2.cY).bind λx4=>
 (bC a0 a1 (decide (0<x4)) 130 a2.fG).bind λx6=>
 (bC a0 x6 ((a2.aO.length:Int) == x4) 136 a2.fG).bind λx8=>
 (cN a0 x8 a2.aO).bind λx10=>
 if x10.2.e_ != 0 then
  some (({ a3 with gA:=a2.cY,aO:=x10.1 }:aF),x10.2)
 else
  (bL x10.1 0).bind λx13=>
  if decide (a2.cY=([115,101,108,101,99,116]:cF)) then
   (lW a0 x10.2 ({ a3 with gA:=a2.cY,aO:=x10.1 }:aF)).bind λx20=>
   (cG a0 x10.2 ({ a3 with gA:=a2.cY,aO:=x10.1 }:aF) x20).bind λx21=>
   some (x21.1,x21.2)
  else
   if decide (a2.cY=([108,111,110,103]:cF)) then
    (rG x13.cL).bind λx25=>
    (bC a0 x10.2 x25 132 a2.fG).bind λx26=>
    (cG a0 x26 ({ a3 with gA:=a2.cY,aO:=x10.1 }:aF) 3).bind λx29=>
    some (x29.1,x29.2)
   else
    if decide (a2.cY=([119,105,100,101]:cF)) then
     ((rG x13.cL).bind λx33=>
       if x33 then
        (bL x10.1 1).bind λx36=>
        (rG x36.cL).bind λx37=>
        (bC a0 x10.2 x37 132 a2.fG).bind λx38=>
        some x38
       else
        (bC a0 x10.2 false 132 a2.fG).bind λx46=>
        some x46).bind λy32=>
     (cG a0 y32 ({ a3 with gA:=a2.cY,aO:=x10.1 }:aF) 3).bind λx51=>
     some (x51.1,x51.2)
    else
     (bC a0 x10.2 (x13.cL == 3) 132 a2.fG).bind λx53=>
     (cG a0 x53 ({ a3 with gA:=a2.cY,aO:=x10.1 }:aF) 2).bind λx55=>
     some (x55.1,x55.2)
@[go_sem] def rD (dC:aG->aH->aD->Option (aF × aH)) (a2:(List aD)) (a0:aG):Nat->(List aF)->Int->aH->Option ((List aF) × aH)
 | 0,_,_,_=>none
 | c6+1,v2,v3,v4=>
   if decide (v3<(a2.length:Int)) then
    (bL a2 v3).bind λx11=>
    (dC a0 v4 x11).bind λx17=>
    iG (v2.length+[x17.1].length<=1073741824) <|
    rD dC a2 a0 c6 (v2++[x17.1]) (i64.wrap (v3+1)) x17.2
   else
    some (v2,v4)
def pI (dC:aG->aH->aD->Option (aF × aH)) (n:Nat) (a0:aG) (a1:aH) (a2:(List aD)):Option ((List aF) × aH):=
 (rD dC a2 a0 n [] 0 a1).bind λy5=>
 some (y5.1,y5.2)
def cB:Nat->(aG->aH->aD->Option (aF × aH)) × (aG->aH->aD->aF->Option (aF × aH)) × (aG->aH->aD->aF->Option (aF × aH)) × (aG->aH->aD->aF->Option (aF × aH)) × (aG->aH->aD->aF->Option (aF × aH)) × (aG->aH->(List aD)->Option ((List aF) × aH))
 | 0=>(λ_ _ _=>none,λ_ _ _ _=>none,λ_ _ _ _=>none,λ_ _ _ _=>none,λ_ _ _ _=>none,λ_ _ _=>none)
 | n+1=>(oN (cB n).2.1 (cB n).2.2.1 (cB n).2.2.2.1 (cB n).2.2.2.2.1 n,oM (cB n).1 n,nP (cB n).2.2.2.2.2 n,mW (cB n).2.2.2.2.2 n,mE (cB n).2.2.2.2.2 n,pI (cB n).1 n)
def gJ (n:Nat):aG->aH->aD->Option (aF × aH):=(cB n).1
def FY (n:Nat):aG->aH->aD->aF->Option (aF × aH):=(cB n).2.1
def Fz (n:Nat):aG->aH->aD->aF->Option (aF × aH):=(cB n).2.2.1
def Fd (n:Nat):aG->aH->aD->aF->Option (aF × aH):=(cB n).2.2.2.1
def Ek (n:Nat):aG->aH->aD->aF->Option (aF × aH):=(cB n).2.2.2.2.1
def GK (n:Nat):aG->aH->(List aD)->Option ((List aF) × aH):=(cB n).2.2.2.2.2
def eR (n:Nat) (a0:aG) (a1:aH) (a2:aD):Option (aF × aH):=
 (gJ n a0 a1 a2).bind λx3=>
 (bC a0 x3.2 (x3.1.cL == 1) 133 a2.fG).bind λx6=>
 some (x3.1,x6)
def mV (n:Nat) (a0:aG) (a1:aH) (a2:aD):Option (Int × aH):=
 (pM n a0.p_ a2.cY).bind λx2=>
 (bC a0 a1 x2.2 130 a2.fG).bind λx5=>
 some (x2.1,x5)
def oK (a0:aG) (a1:aH) (a2:Int):Option (List aM):=
 (bL a0.p_.bF a2).bind λx1=>
 iG (0<=x1.bB/\x1.bB<=(x1.aW.length:Int)) <|
 some (x1.aW.take (x1.bB.toNat))
def uD (a0:Int) (a1:Int):Option Bool:=
 (if a0 == a1 then
    some true
   else
    if a0 == 1 then
     some (a1 == 2)
    else
     some false).bind λy1=>
 some y1
def mQ (n:Nat) (a0:aG) (a1:aH) (a2:aD) (a3:Int):Option (aF × aH):=
 (bC a0 a1 (a2.bS == 15) 132 a2.fG).bind λx3=>
 (gI n a0 x3 a2).bind λx5=>
 ((eY a0 x5.2 x5.1).bind λx8=>
   if x8 == 4 then
    (bL a0.p_.bF a0.f_).bind λx11=>
    (bL x11.aW (max x5.1 0)).bind λx14=>
    (bC a0 x5.2 (x14.qV == a3) 132 a2.fG).bind λx15=>
    some x15
   else
    (bC a0 x5.2 false 132 a2.fG).bind λx40=>
    some x40).bind λy7=>
 some ((aF.mk ([118,97,114]:cF) 4 0 x5.1 [] a2.fG),y7)
def mX (n:Nat) (a0:aG) (a1:aH) (a2:aD) (a3:aM):Option (aF × aH):=
 if a3.bS == 4 then
  (mQ n a0 a1 a2 a3.qV).bind λx5=>
  some (x5.1,x5.2)
 else
  if a3.bS == 1 then
   (eR n a0 a1 a2).bind λx8=>
   some (x8.1,x8.2)
  else
   (gJ n a0 a1 a2).bind λx10=>
   (uD x10.1.cL a3.bS).bind λx13=>
   (bC a0 x10.2 x13 132 a2.fG).bind λx14=>
   some (x10.1,x14)
@[go_sem] def lA (n:Nat) (a2:aD) (x20:(List aM)) (a0:aG) (x7:(List Int)) (x4:(Int × aH)):Nat->Int->aH->aB->Option (aH × aB)
 | 0,_,_,_=>none
 | c29+1,v25,v26,v27=>
   if decide (v25<(a2.aO.length:Int)) then
    (bL a2.aO v25).bind λx34=>
    if v26.e_ != 0 then
     some (v26,v27)
    else
     (bL x20 v25).bind λx41=>
     (mX n ({ a0 with cC:=(a0.cC.set a0.gE.toNat (x7++[x4.1])) }:aG) v26 x34 x41).bind λx42=>
     iG (v27.aO.length+[x42.1].length<=1073741824) <|
     lA n a2 x20 a0 x7 x4 c29 (i64.wrap (v25+1)) x42.2 ({ v27 with aO:=(v27.aO++[x42.1]) }:aB)
   else
    some (v26,v27)
def jH (n:Nat) (a0:aG) (a1:aH) (a2:aD) (a3:aB) (a4:Int):Option (aB × aG × aH):=
 (mV n a0 a1 a2).bind λx4=>
 if x4.2.e_ != 0 then
  some (({ a3 with gA:=([99,97,108,108]:cF),fF:=a4,gT:=x4.1,aO:=[] }:aB),a0,x4.2)
 else
  (bL a0.cC a0.gE).bind λx7=>
  iG (x7.length+1<=1073741824) <|
  (oK ({ a0 with cC:=(a0.cC.set a0.gE.toNat (x7++[x4.1])) }:aG) x4.2 x4.1).bind λx20=>
  (bC ({ a0 with cC:=(a0.cC.set a0.gE.toNat (x7++[x4.1])) }:aG) x4.2 ((a2.aO.length:Int) == (x20.length:Int)) 136 a2.fG).bind λx22=>
  (lA n a2 x20 a0 x7 x4 n 0 x22 ({ a3 with gA:=([99,97,108,108]:cF),fF:=a4,gT:=x4.1,aO:=[] }:aB)).bind λy28=>
  some (y28.2,({ a0 with cC:=(a0.cC.set a0.gE.toNat (x7++[x4.1])) }:aG),y28.1)
def jT (n:Nat) (a0:aG) (a1:aH) (a2:aD):Option Bool:=
 (if a2.bS == 17 then
    (vI n a2.cY).bind λx4=>
    some (x4 == 0)
   else
    some false).bind λy2=>
 some y2
def pH (n:Nat) (a0:aG) (a1:aH) (a2:aD) (a3:aB):Option (aB × aG × aH):=
 (bL a2.aO 0).bind λx4=>
 (jT n a0 a1 x4).bind λx5=>
 if x5 then
  (jH n a0 a1 x4 ({ a3 with aO:=[] }:aB) (-1:Int)).bind λx13=>
  if x13.2.2.e_ != 0 then
   some (({ x13.1 with fG:=a2.fG }:aB),x13.2.1,x13.2.2)
  else
   (bL x13.2.1.p_.bF x13.1.gT).bind λx16=>
   (bC x13.2.1 x13.2.2 (x16.bX != 0) 132 a2.fG).bind λx30=>
   (eI n x13.2.1 x30 (aM.mk a2.cY x16.bX 0) a2.fG).bind λx32=>
   some (({ x13.1 with fF:=x32.1,fG:=a2.fG }:aB),x32.2.1,x32.2.2)
 else
  (gJ n a0 a1 x4).bind λx34=>
  (uA x34.1.cL).bind λx37=>
  (eI n a0 x34.2 (aM.mk a2.cY x37 0) a2.fG).bind λx38=>
  some (({ a3 with gA:=([118,97,114]:cF),fF:=x38.1,aO:=[x34.1] }:aB),x38.2.1,x38.2.2)
def nQ (n:Nat) (a0:aG) (a1:aH) (a2:aD):Option (Int × aH):=
 (gI n a0 a1 a2).bind λx2=>
 (eY a0 x2.2 x2.1).bind λx4=>
 (if x4 == 2 then
    (bC a0 x2.2 true 132 a2.fG).bind λx8=>
    some x8
   else
    (bC a0 x2.2 (x4 == 3) 132 a2.fG).bind λx10=>
    some x10).bind λy6=>
 some (x2.1,y6)
def qS (n:Nat) (a0:aG) (a1:aH) (a2:aD) (a3:aB):Option (aB × aG × aH):=
 (nQ n a0 a1 a2).bind λx4=>
 (bL a2.aO 0).bind λx6=>
 (jT n a0 x4.2 x6).bind λx7=>
 if x7 then
  (jH n a0 x4.2 x6 ({ a3 with aO:=[] }:aB) x4.1).bind λx15=>
  if x15.2.2.e_ == 0 then
   (eY x15.2.1 x15.2.2 x4.1).bind λx18=>
   (bL x15.2.1.p_.bF x15.1.gT).bind λx19=>
   (bC x15.2.1 x15.2.2 (x19.bX == x18) 132 a2.fG).bind λx21=>
   some (({ x15.1 with fG:=a2.fG }:aB),x15.2.1,x21)
  else
   some (({ x15.1 with fG:=a2.fG }:aB),x15.2.1,x15.2.2)
 else
  (gJ n a0 x4.2 x6).bind λx36=>
  (eY a0 x36.2 x4.1).bind λx39=>
  (uD x36.1.cL x39).bind λx40=>
  (bC a0 x36.2 x40 132 a2.fG).bind λx41=>
  some (({ a3 with gA:=([115,101,116]:cF),fF:=x4.1,aO:=[x36.1] }:aB),a0,x41)
def pG (n:Nat) (a0:aG) (a1:aH) (a2:aD) (a3:Int):Option (aF × aH):=
 (eR n a0 a1 a2).bind λx3=>
 (if x3.2.e_ == 0 then
    some (decide (x3.1.gA=([110,117,109]:cF)))
   else
    some false).bind λy6=>
 if y6 then
  (bL a0.p_.bF a0.f_).bind λx12=>
  (bL x12.aW a3).bind λx15=>
  (bC a0 x3.2 (decide ((i64.wrap x3.1.N_)<x15.qV)) 137 a2.fG).bind λx16=>
  some (x3.1,x16)
 else
  some (x3.1,x3.2)
def qT (n:Nat) (a0:aG) (a1:aH) (a2:aD) (a3:aB):Option (aB × aH):=
 (gI n a0 a1 a2).bind λx4=>
 (eY a0 x4.2 x4.1).bind λx6=>
 (bC a0 x4.2 (x6 == 4) 132 a2.fG).bind λx7=>
 (bL a2.aO 0).bind λx10=>
 (pG n a0 x7 x10 x4.1).bind λx11=>
 (bL a2.aO 1).bind λx19=>
 (gJ n a0 x11.2 x19).bind λx20=>
 (uD x20.1.cL 2).bind λx28=>
 (bC a0 x20.2 x28 132 a2.fG).bind λx29=>
 some (({ a3 with gA:=([112,117,116]:cF),fF:=x4.1,aO:=[x11.1,x20.1] }:aB),x29)
def pX (n:Nat) (a0:aG) (a1:aH) (a2:aD) (a3:aB) (a4:Bool):Option (aB × aG × aH):=
 (if a4 then
    (bL a0.p_.bF a0.f_).bind λx6=>
    (bC a0 a1 (x6.bX != 0) 135 a2.fG).bind λx9=>
    some x9
   else
    (bC a0 a1 false 135 a2.fG).bind λx24=>
    some x24).bind λy4=>
 (if y4.e_ == 0 then
    (bL a2.aO 0).bind λx31=>
    (jT n a0 y4 x31).bind λx32=>
    some x32
   else
    some false).bind λy29=>
 if y29 then
  (bL a2.aO 0).bind λx43=>
  (jH n a0 y4 x43 ({ a3 with aO:=[] }:aB) (-2:Int)).bind λx44=>
  if x44.2.2.e_ == 0 then
   (bL x44.2.1.p_.bF x44.1.gT).bind λx52=>
   (bL x44.2.1.p_.bF x44.2.1.f_).bind λx54=>
   (bC x44.2.1 x44.2.2 (x52.bX == x54.bX) 132 a2.fG).bind λx57=>
   some (({ x44.1 with fG:=a2.fG }:aB),x44.2.1,x57)
  else
   some (({ x44.1 with fG:=a2.fG }:aB),x44.2.1,x44.2.2)
 else
  (bL a2.aO 0).bind λx83=>
  (gJ n a0 y4 x83).bind λx84=>
  (bL a0.p_.bF a0.f_).bind λx92=>
  (uD x84.1.cL x92.bX).bind λx95=>
  (bC a0 x84.2 x95 132 a2.fG).bind λx96=>
  some (({ a3 with gA:=([114,101,116,117,114,110]:cF),aO:=[x84.1] }:aB),a0,x96)
@[go_sem] def kM (dU:aG->aH->aD->Bool->Option (aB × aG × aH)) (a2:aD) (a3:Bool):Nat->(List aB)->Int->aG->aH->Option ((List aB) × aG × aH)
 | 0,_,_,_,_=>none
 | c9+1,v4,v5,v6,v7=>
   if decide (v5<(a2.aO.length:Int)) then
    (bL a2.aO v5).bind λx14=>
    if v7.e_ != 0 then
     some (v4,v6,v7)
    else
     (if a3 then
        (dU v6 v7 x14 (v5 == (i64.wrap ((a2.aO.length:Int) - 1)))).bind λx28=>
        iG (v4.length+[x28.1].length<=1073741824) <|
        some ((v4++[x28.1]),x28.2.1,x28.2.2)
       else
        (dU v6 v7 x14 false).bind λx33=>
        iG (v4.length+[x33.1].length<=1073741824) <|
        some ((v4++[x33.1]),x33.2.1,x33.2.2)).bind λy26=>
     kM dU a2 a3 c9 y26.1 (i64.wrap (v5+1)) y26.2.1 y26.2.2
   else
    some (v4,v6,v7)
def nS (dU:aG->aH->aD->Bool->Option (aB × aG × aH)) (n:Nat) (a0:aG) (a1:aH) (a2:aD) (a3:Bool):Option ((List aB) × aG × aH):=
 (kM dU a2 a3 n [] 0 a0 a1).bind λy8=>
 iG (0<=(a0.bI.length:Int)/\(a0.bI.length:Int)<=(y8.2.1.bI.length:Int)) <|
 some (y8.1,({ y8.2.1 with bI:=(y8.2.1.bI.take (a0.bI.length)) }:aG),y8.2.2)
@[go_sem] def fZ (cR:aG->aH->aD->Bool->Option ((List aB) × aG × aH)) (a2:aD):Nat->Int->aG->aH->aB->Option (aG × aH × aB)
 | 0,_,_,_,_=>none
 | c59+1,v54,v55,v56,v57=>
   if decide (v54<((a2.aO.drop 2).length:Int)) then
    (bL (a2.aO.drop 2) v54).bind λx64=>
    (cR v55 v56 x64 false).bind λx70=>
    fZ cR a2 c59 (i64.wrap (v54+1)) x70.2.1 x70.2.2 ({ v57 with fE:=x70.1 }:aB)
   else
    some (v55,v56,v57)
def kU (cR:aG->aH->aD->Bool->Option ((List aB) × aG × aH)) (pP:aG->aH->aD->aB->Option (aB × aG × aH)) (n:Nat) (a0:aG) (a1:aH) (a2:aD) (a3:Bool):Option (aB × aG × aH):=
 if a2.bS == 5 then
  (bL a2.aO 0).bind λx5=>
  (eR n a0 a1 x5).bind λx6=>
  (eI n a0 x6.2 (aM.mk a2.cY 1 0) a2.fG).bind λx13=>
  some ((aB.mk ([108,101,116]:cF) x13.1 0 [x6.1] [] [] a2.fG),x13.2.1,x13.2.2)
 else
  if a2.bS == 6 then
   (pH n a0 a1 a2 (aB.mk [] (-1:Int) 0 [] [] [] a2.fG)).bind λx16=>
   some (x16.1,x16.2.1,x16.2.2)
  else
   if a2.bS == 7 then
    (xM (i64.wrap (min a2.oR 1025))).bind λx19=>
    (bC a0 a1 x19 136 a2.fG).bind λx20=>
    (eI n a0 x20 (aM.mk a2.cY 4 (i64.wrap a2.oR)) a2.fG).bind λx23=>
    some ((aB.mk ([97,114,114]:cF) x23.1 0 [] [] [] a2.fG),x23.2.1,x23.2.2)
   else
    if a2.bS == 8 then
     (qS n a0 a1 a2 (aB.mk [] (-1:Int) 0 [] [] [] a2.fG)).bind λx26=>
     some (x26.1,x26.2.1,x26.2.2)
    else
     if a2.bS == 9 then
      (qT n a0 a1 a2 (aB.mk [] (-1:Int) 0 [] [] [] a2.fG)).bind λx29=>
      some (x29.1,a0,x29.2)
     else
      if a2.bS == 10 then
       (jH n a0 a1 a2 (aB.mk [] (-1:Int) 0 [] [] [] a2.fG) (-1:Int)).bind λx32=>
       some (x32.1,x32.2.1,x32.2.2)
      else
       if a2.bS == 11 then
        (bL a2.aO 0).bind λx35=>
        (eR n a0 a1 x35).bind λx36=>
        (bL a2.aO 1).bind λx43=>
        (cR a0 x36.2 x43 false).bind λx44=>
        iG ((0:Int)<=2/\2<=(a2.aO.length:Int)) <|
        (fZ cR a2 n 0 x44.2.1 x44.2.2 (aB.mk ([105,102]:cF) (-1:Int) 0 [x36.1] x44.1 [] a2.fG)).bind λy58=>
        some (y58.2.2,y58.1,y58.2.1)
       else
        if a2.bS == 12 then
         (pP a0 a1 a2 (aB.mk [] (-1:Int) 0 [] [] [] a2.fG)).bind λx73=>
         some (x73.1,x73.2.1,x73.2.2)
        else
         if a2.bS == 13 then
          (pX n a0 a1 a2 (aB.mk [] (-1:Int) 0 [] [] [] a2.fG) a3).bind λx76=>
          some (x76.1,x76.2.1,x76.2.2)
         else
          some ((aB.mk [] (-1:Int) 0 [] [] [] a2.fG),a0,a1)
def oL (cR:aG->aH->aD->Bool->Option ((List aB) × aG × aH)) (n:Nat) (a0:aG) (a1:aH) (a2:aD) (a3:aB):Option (aB × aG × aH):=
 (bL a2.aO 0).bind λx4=>
 (eR n a0 a1 x4).bind λx5=>
 (bL a2.aO 1).bind λx6=>
 (eR n a0 x5.2 x6).bind λx7=>
 (eI n a0 x7.2 (aM.mk a2.cY 1 0) a2.fG).bind λx21=>
 (bL a2.aO 2).bind λx23=>
 (cR x21.2.1 x21.2.2 x23 false).bind λx24=>
 iG (0<=(min (a0.bI.length:Int) (x24.2.1.bI.length:Int))/\(min (a0.bI.length:Int) (x24.2.1.bI.length:Int))<=(x24.2.1.bI.length:Int)) <|
 some (({ a3 with gA:=([102,111,114]:cF),fF:=x21.1,aO:=[x5.1,x7.1],bO:=x24.1 }:aB),({ x24.2.1 with bI:=(x24.2.1.bI.take ((min (a0.bI.length:Int) (x24.2.1.bI.length:Int)).toNat)) }:aG),x24.2.2)
def eF:Nat->(aG->aH->aD->Bool->Option ((List aB) × aG × aH)) × (aG->aH->aD->Bool->Option (aB × aG × aH)) × (aG->aH->aD->aB->Option (aB × aG × aH))
 | 0=>(λ_ _ _ _=>none,λ_ _ _ _=>none,λ_ _ _ _=>none)
 | n+1=>(nS (eF n).2.1 n,kU (eF n).1 (eF n).2.2 n,oL (eF n).1 n)
def uQ (n:Nat):aG->aH->aD->Bool->Option ((List aB) × aG × aH):=(eF n).1
def Cz (n:Nat):aG->aH->aD->Bool->Option (aB × aG × aH):=(eF n).2.1
def FX (n:Nat):aG->aH->aD->aB->Option (aB × aG × aH):=(eF n).2.2
def wI (a0:aD):Option Bool:=
 (if decide (0<(a0.aO.length:Int)) then
    (bL a0.aO (i64.wrap ((a0.aO.length:Int) - 1))).bind λx4=>
    some (x4.bS == 13)
   else
    some false).bind λy2=>
 some y2
@[go_sem] def iX (n:Nat) (a3:aD):Nat->Int->aG->aH->Option (aG × aH)
 | 0,_,_,_=>none
 | c11+1,v7,v8,v9=>
   if decide (v7<((a3.aO.drop (max (i64.wrap ((a3.aO.length:Int) - 1)) 0).toNat).length:Int)) then
    (bL (a3.aO.drop (max (i64.wrap ((a3.aO.length:Int) - 1)) 0).toNat) v7).bind λx16=>
    (bL v8.p_.bF v8.f_).bind λx22=>
    (uQ n v8 v9 x16 true).bind λx25=>
    (bL x25.2.1.p_.bF v8.f_).bind λx26=>
    ((bL (x25.2.1.p_.bF.set v8.f_.toNat { x26 with bO:=x25.1 }) v8.f_).bind λx56=>
      if x56.bX == 0 then
       (bC ({ x25.2.1 with p_:=⟨(x25.2.1.p_.bF.set v8.f_.toNat { x26 with bO:=x25.1 })⟩ }:aG) x25.2.2 true 135 a3.fG).bind λx71=>
       some x71
      else
       (wI x16).bind λx73=>
       (bC ({ x25.2.1 with p_:=⟨(x25.2.1.p_.bF.set v8.f_.toNat { x26 with bO:=x25.1 })⟩ }:aG) x25.2.2 x73 135 a3.fG).bind λx74=>
       some x74).bind λy55=>
    iX n a3 c11 (i64.wrap (v7+1)) ({ x25.2.1 with p_:=⟨(x25.2.1.p_.bF.set v8.f_.toNat { x26 with bO:=x25.1 })⟩ }:aG) y55
   else
    some (v8,v9)
def lO (n:Nat) (a0:aG) (a1:aH) (a2:Int) (a3:aD):Option (aG × aH):=
 (mP n a0 a1 a2).bind λx2=>
 iG (0<=(max (i64.wrap ((a3.aO.length:Int) - 1)) 0)/\(max (i64.wrap ((a3.aO.length:Int) - 1)) 0)<=(a3.aO.length:Int)) <|
 (iX n a3 n 0 x2.1 x2.2).bind λy10=>
 some (y10.1,y10.2)
def xC (rec_:Int->List Int->Option (Bool × List Int)) (to:Int):List Int->List Int->Option (Bool × List Int)
 | [],seen=>some (false,seen)
 | k::ks,seen=>
   if k == to then some (true,seen)
   else
    (bL seen k).bind λs=>
    if i64.wrap (s+1) == 1 then
     (rec_ k (seen.set k.toNat (i64.wrap (s+1)))).bind λr=>
     if r.1=true then some (true,r.2) else xC rec_ to ks r.2
    else xC rec_ to ks (seen.set k.toNat (i64.wrap (s+1)))
def kY:Nat->aG->Int->Int->List Int->Option (Bool × List Int)
 | 0,_,_,_,_=>none
 | n+1,c,fr,to,seen=>(bL c.cC fr).bind λl=>iG (l.length<=1073741824) <| xC (λk s=>kY n c k to s) to l seen
abbrev Look:=Int->aD->aG->aH->Option (aG × aH)
def uB (look:Look):List aD->Nat->aG->aH->Option (aG × aH)
 | [],_,c,w=>some (c,w)
 | f::l,i,c,w=>if w.e_ == 0 then (look i f c w).bind λr=>uB look l (i+1) r.1 r.2 else uB look l (i+1) c w
def xN (nodes:List aD):List Look->aG->aH->Option (aG × aH)
 | [],c,w=>some (c,w)
 | look::ls,c,w=>(uB look nodes 0 c w).bind λr=>xN nodes ls r.1 r.2
def Ai (n len:Nat) (c:aG):List aD->Nat->aH->Option aH
 | [],_,w=>some w
 | f::l,i,w=>if w.e_ == 0 then (kY n c i i (List.replicate len 0)).bind λr=>(bC c w (!r.1) 134 f.fG).bind λw'=>Ai n len c l (i+1) w' else Ai n len c l (i+1) w
def AN (n:Nat) (a0:cF):Option (bG × Int × Int):=
 (Ax n a0).bind λp=>
 if p.2.1 != 0 then some (⟨[]⟩,p.2.1,p.2.2)
 else
  (pF n aG.Z ⟨0,0⟩ p.1).bind λa=>
  iG (p.1.aO.length<=1073741824) <|
  (xN p.1.aO [λi f c w=>lM n c w i f,λi f c w=>lO n c w i f] a.1 a.2).bind λb=>
  (Ai n p.1.aO.length b.1 p.1.aO 0 b.2).bind λw=>
  if w.e_ != 0 then some (⟨[]⟩,w.e_,w.Dl) else some (b.1.p_,0,0)
structure aJ where
 p_:bG
 f_:aT
 fB:Int
 e_:Int
def dQ (a0:aJ):Option aJ:=
 if decide (16384<(i64.wrap (a0.fB+1))) then
  some ({ a0 with fB:=(i64.wrap (a0.fB+1)),e_:=161 }:aJ)
 else
  some ({ a0 with fB:=(i64.wrap (a0.fB+1)) }:aJ)
def yP (a0:Int) (a1:(List Int)):Option Int:=
 (if decide (a0<0) then
    some true
   else
    some (decide ((a1.length:Int)<=a0))).bind λy1=>
 if y1 then
  some a0
 else
  (bL a1 a0).bind λx7=>
  some x7
def vF (vD:(List aF)->(List Int)->Option (List aF)) (n:Nat) (a0:aF) (a1:(List Int)):Option aF:=
 (yP a0.fF a1).bind λx3=>
 (vD a0.aO a1).bind λx5=>
 some ({ a0 with fF:=x3,aO:=x5 }:aF)
@[go_sem] def uN (rK:aF->(List Int)->Option aF) (a0:(List aF)) (a1:(List Int)):Nat->(List aF)->Int->Option (List aF)
 | 0,_,_=>none
 | c5+1,v2,v3=>
   if decide (v3<(a0.length:Int)) then
    (bL a0 v3).bind λx10=>
    (rK x10 a1).bind λx16=>
    iG (v2.length+[x16].length<=1073741824) <|
    uN rK a0 a1 c5 (v2++[x16]) (i64.wrap (v3+1))
   else
    some v2
def tX (rK:aF->(List Int)->Option aF) (n:Nat) (a0:(List aF)) (a1:(List Int)):Option (List aF):=
 (uN rK a0 a1 n [] 0).bind λy4=>
 some y4
def Ao:Nat->(aF->(List Int)->Option aF) × ((List aF)->(List Int)->Option (List aF))
 | 0=>(λ_ _=>none,λ_ _=>none)
 | n+1=>(vF (Ao n).2 n,tX (Ao n).1 n)
def rN (n:Nat):aF->(List Int)->Option aF:=(Ao n).1
def tY (n:Nat):(List aF)->(List Int)->Option (List aF):=(Ao n).2
def dP (a0:aJ) (a1:aM):Option (Int × aJ):=
 if decide (4096<=(a0.f_.aW.length:Int)) then
  some (0,({ a0 with e_:=161 }:aJ))
 else
  iG (a0.f_.aW.length+[a1].length<=1073741824) <|
  some ((i64.wrap (((a0.f_.aW++[a1]).length:Int) - 1)),({ a0 with f_:=({ a0.f_ with aW:=(a0.f_.aW++[a1]) }:aT) }:aJ))
@[go_sem] def eO (n:Nat) (a1:aB) (a3:(List Int)) (a2:aT):Nat->(List aB)->(List Int)->Int->aJ->Option ((List aB) × (List Int) × aJ)
 | 0,_,_,_,_=>none
 | c9+1,v4,v5,v6,v7=>
   if decide (v6<(a1.aO.length:Int)) then
    ((bL a1.aO v6).bind λx15=>
      if x15.cL == 4 then
       (yP x15.fF a3).bind λx22=>
       iG (v5.length+[x22].length<=1073741824) <|
       some (v4,(v5++[x22]),v7)
      else
       (bL a2.aW v6).bind λx29=>
       if x29.bS == 1 then
        (dQ v7).bind λx35=>
        (dP x35 x29).bind λx37=>
        iG (v5.length+[x37.1].length<=1073741824) <|
        (rN n x15 a3).bind λx44=>
        iG (v4.length+[(aB.mk ([108,101,116]:cF) x37.1 0 [x44] [] [] a1.fG)].length<=1073741824) <|
        some ((v4++[(aB.mk ([108,101,116]:cF) x37.1 0 [x44] [] [] a1.fG)]),(v5++[x37.1]),x37.2)
       else
        (dQ v7).bind λx49=>
        (dP x49 x29).bind λx51=>
        iG (v5.length+[x51.1].length<=1073741824) <|
        (rN n x15 a3).bind λx58=>
        iG (v4.length+[(aB.mk ([118,97,114]:cF) x51.1 0 [x58] [] [] a1.fG)].length<=1073741824) <|
        some ((v4++[(aB.mk ([118,97,114]:cF) x51.1 0 [x58] [] [] a1.fG)]),(v5++[x51.1]),x51.2)).bind λy14=>
    eO n a1 a3 a2 c9 y14.1 y14.2.1 (i64.wrap (v6+1)) y14.2.2
   else
    some (v4,v5,v7)
def mO (n:Nat) (a0:aJ) (a1:aB) (a2:aT) (a3:(List Int)):Option ((List aB) × (List Int) × aJ):=
 (eO n a1 a3 a2 n [] [] 0 a0).bind λy8=>
 some (y8.1,y8.2.1,y8.2.2)
def jQ (a0:aJ) (a1:aB) (a2:(List Int)) (a3:aB):Option aB:=
 (bL a0.p_.bF a1.gT).bind λx4=>
 if a1.fF == (-2:Int) then
  if decide (a3.fG<0) then
   some ({ a3 with fG:=a1.fG }:aB)
  else
   some a3
 else
  if a1.fF == (-1:Int) then
   some (aB.mk ([118,97,114]:cF) (-1:Int) x4.bX [] [] [] a1.fG)
  else
   (yP a1.fF a2).bind λx12=>
   some (aB.mk ([115,101,116]:cF) x12 0 [] [] [] a1.fG)
def eK (a0:aJ) (a1:aF) (a2:aB):Option (aB × aJ):=
 if decide (a2.gA=([118,97,114]:cF)) then
  (dP a0 (aM.mk [] a2.gT 0)).bind λx5=>
  some (({ a2 with fF:=x5.1,gT:=0,aO:=[a1] }:aB),x5.2)
 else
  some (({ a2 with gT:=0,aO:=[a1] }:aB),a0)
@[go_sem] def dH (eG:aJ->aB->(List Int)->aB->Option ((List aB) × aJ)) (a1:(List aB)) (a2:(List Int)) (a3:aB):Nat->(List aB)->Int->aJ->Option (((List aB) × aJ) ⊕ ((List aB) × aJ))
 | 0,_,_,_=>none
 | c7+1,v3,v4,v5=>
   if decide (v4<(a1.length:Int)) then
    (bL a1 v4).bind λx12=>
    if v5.e_ != 0 then
     some (.inr ([],v5))
    else
     (eG v5 x12 a2 a3).bind λx19=>
     iG (v3.length+x19.1.length<=1073741824) <|
     dH eG a1 a2 a3 c7 (v3++x19.1) (i64.wrap (v4+1)) x19.2
   else
    some (.inl (v3,v5))
def fL (eG:aJ->aB->(List Int)->aB->Option ((List aB) × aJ)) (n:Nat) (a0:aJ) (a1:(List aB)) (a2:(List Int)) (a3:aB):Option ((List aB) × aJ):=
 (dH eG a1 a2 a3 n [] 0 a0).bind λy6=>
 y6.elim (λy6a=>
  some (y6a.1,y6a.2)) (λy6a=>
  some y6a)
def dZ (oW:aJ->aB->(List Int)->aB->Option ((List aB) × aJ)) (dX:aJ->(List aB)->(List Int)->aB->Option ((List aB) × aJ)) (n:Nat) (a0:aJ) (a1:aB) (a2:(List Int)) (a3:aB):Option ((List aB) × aJ):=
 if decide (a1.gA=([99,97,108,108]:cF)) then
  (oW a0 a1 a2 a3).bind λx4=>
  some (x4.1,x4.2)
 else
  (dQ a0).bind λx6=>
  if decide (a1.gA=([114,101,116,117,114,110]:cF)) then
   (bL a1.aO 0).bind λx9=>
   (rN n x9 a2).bind λx10=>
   if decide (a3.fG<0) then
    (eK x6 x10 ({ a3 with fG:=a1.fG }:aB)).bind λx19=>
    some ([x19.1],x19.2)
   else
    (eK x6 x10 a3).bind λx21=>
    some ([x21.1],x21.2)
  else
   (yP a1.fF a2).bind λx23=>
   (tY n a1.aO a2).bind λx24=>
   (dX x6 a1.bO a2 a3).bind λx27=>
   (dX x27.2 a1.fE a2 a3).bind λx28=>
   some ([({ a1 with fF:=x23,aO:=x24,bO:=x27.1,fE:=x28.1 }:aB)],x28.2)
@[go_sem] def eN (x5:aT):Nat->(List Int)->Int->aJ->Option ((List Int) × aJ)
 | 0,_,_,_=>none
 | c20+1,v16,v17,v18=>
   if decide (v17<((x5.aW.drop x5.bB.toNat).length:Int)) then
    (bL (x5.aW.drop x5.bB.toNat) v17).bind λx25=>
    (dP v18 x25).bind λx31=>
    iG (v16.length+[x31.1].length<=1073741824) <|
    eN x5 c20 (v16++[x31.1]) (i64.wrap (v17+1)) x31.2
   else
    some (v16,v18)
def fW (dX:aJ->(List aB)->(List Int)->aB->Option ((List aB) × aJ)) (n:Nat) (a0:aJ) (a1:aB) (a2:(List Int)) (a3:aB):Option ((List aB) × aJ):=
 (dQ a0).bind λx3=>
 (bL x3.p_.bF a1.gT).bind λx5=>
 (mO n x3 a1 x5 a2).bind λx11=>
 iG (0<=x5.bB/\x5.bB<=(x5.aW.length:Int)) <|
 (eN x5 n x11.2.1 0 x11.2.2).bind λy19=>
 if y19.2.e_ != 0 then
  some ([],y19.2)
 else
  (jQ y19.2 a1 a2 a3).bind λx48=>
  (dX y19.2 x5.bO y19.1 x48).bind λx49=>
  iG (x11.1.length+x49.1.length<=1073741824) <|
  some ((x11.1++x49.1),x49.2)
def gQ:Nat->(aJ->(List aB)->(List Int)->aB->Option ((List aB) × aJ)) × (aJ->aB->(List Int)->aB->Option ((List aB) × aJ)) × (aJ->aB->(List Int)->aB->Option ((List aB) × aJ))
 | 0=>(λ_ _ _ _=>none,λ_ _ _ _=>none,λ_ _ _ _=>none)
 | n+1=>(fL (gQ n).2.1 n,dZ (gQ n).2.2 (gQ n).1 n,fW (gQ n).1 n)
def eA (n:Nat):aJ->(List aB)->(List Int)->aB->Option ((List aB) × aJ):=(gQ n).1
def fQ (n:Nat):aJ->aB->(List Int)->aB->Option ((List aB) × aJ):=(gQ n).2.1
def kP (n:Nat):aJ->aB->(List Int)->aB->Option ((List aB) × aJ):=(gQ n).2.2
def vO (n:Nat) (a0:bG) (a1:Int):Option (aT × Int):=
 (if decide (a1<0) then
    some true
   else
    some (decide ((a0.bF.length:Int)<=a1))).bind λy3=>
 if y3 then
  some ((aT.mk [] false 0 0 [] []),11)
 else
  (bL a0.bF a1).bind λx9=>
  iG (x9.aW.length<=1073741824) <|
  (eA n (aJ.mk a0 x9 0 0) x9.bO [] (aB.mk ([114,101,116,117,114,110]:cF) (-1:Int) 0 [] [] [] (-1:Int))).bind λx17=>
  if x17.2.e_ != 0 then
   some ((aT.mk [] false 0 0 [] []),x17.2.e_)
  else
   some (({ x17.2.f_ with bO:=x17.1 }:aT),0)
structure aK where
 gA:Int
 N_:Int
 aO:(List aK)
mutual
def aK.C:aK->List V
 | ⟨a0,a1,a2⟩=>[.lit (.int .i64 a0),.lit (.int .u32 a1),.list .none (aK.CL a2)]
def aK.CL:List aK->List (List V)
 | []=>[]
 | x::l=>aK.C x::aK.CL l
end
theorem aK.CL_eq (l:List aK):aK.CL l=l.map aK.C:=by
 induction l with
 | nil=>rfl
 | cons x l ih=>rw [aK.CL,ih];rfl
@[go_sem] theorem aK.C_eq (x:aK):aK.C x=[.lit (.int .i64 x.gA),.lit (.int .u32 x.N_),.list .none (x.aO.map aK.C)]:=by
 cases x;simp only [aK.C,aK.CL_eq]
def aK.Z:aK:=⟨0,0,[]⟩
structure bQ where
 bN:(List aK)
 gM:(List Int)
 sZ:(List Int)
 nD:(List Int)
def bQ.C (x:bQ):List V:=[.list .none (x.bN.map aK.C),.list .none (x.gM.map (cI .i64)),.list .none (x.sZ.map (cI .u32)),.list .none (x.nD.map (cI .u32))]
@[go_sem] theorem bQ.C_eq (x:bQ):bQ.C x=[.list .none (x.bN.map aK.C),.list .none (x.gM.map (cI .i64)),.list .none (x.sZ.map (cI .u32)),.list .none (x.nD.map (cI .u32))]:=rI rfl
structure aS where
 c_:bQ
 e_:Int
structure T_frame_giver where
 gE:Int
structure T_frame_Frame where
 Off_:(List Int)
 Bound_:(List Int)
 bX:Int
 Base_:Int
structure T_frame_Arg where
 Reg_:Int
 Off_:Int
def nE (n:Nat) (a0:cF) (a1:Int):Option (aT × bG × Bool):=
 if decide (2000<(a0.length:Int)) then
  some ((aT.mk [] false 0 0 [] []),(bG.mk []),false)
 else
  (AN n a0).bind λx4=>
  if x4.2.1 != 0 then
   some ((aT.mk [] false 0 0 [] []),(bG.mk []),false)
  else
   (vO n x4.1 a1).bind λx8=>
   some (x8.1,x4.1,(x8.2 == 0))
@[go_sem] def yW (kF:(List aB)->Option Int) (a0:(List aB)):Nat->Int->Int->Option Int
 | 0,_,_=>none
 | c5+1,v2,v3=>
   if decide (v3<(a0.length:Int)) then
    ((bL a0 v3).bind λx11=>
      if decide (x11.gA=([102,111,114]:cF)) then
       (kF x11.bO).bind λx18=>
       (kF x11.fE).bind λx19=>
       some (i64.wrap ((i64.wrap (v2+1))+(i64.wrap (x18+x19))))
      else
       (kF x11.bO).bind λx22=>
       (kF x11.fE).bind λx23=>
       some (i64.wrap (v2+(i64.wrap (x22+x23))))).bind λy10=>
    yW kF a0 c5 y10 (i64.wrap (v3+1))
   else
    some v2
def wH (kF:(List aB)->Option Int) (n:Nat) (a0:(List aB)):Option Int:=
 (yW kF a0 n 0 0).bind λy4=>
 some y4
def xK:Nat->(List aB)->Option Int
 | 0=>λ_=>none
 | n+1=>wH (xK n) n
def tN (a0:List Int) (a1:Int):Option (List Int):=if a0.length=1/\a1=4 then some (a0++a0++a0++a0) else none
def EF (a0:Int):Option aK:=
 some (aK.mk 2 (u32.wrap a0) [])
@[go_sem] def Al (pV:aK->Option Int) (a0:aK):Nat->Int->Int->Option Int
 | 0,_,_=>none
 | c6+1,v3,v4=>
   if decide (v4<(a0.aO.length:Int)) then
    (bL a0.aO v4).bind λx11=>
    (pV x11).bind λx17=>
    Al pV a0 c6 (i64.wrap (v3+x17)) (i64.wrap (v4+1))
   else
    some v3
def xZ (pV:aK->Option Int) (n:Nat) (a0:aK):Option Int:=
 (Al pV a0 n 1 0).bind λy5=>
 some y5
def tT:Nat->aK->Option Int
 | 0=>λ_=>none
 | n+1=>xZ (tT n) n
@[go_sem] def gW (gG:bQ->aF->Option Int) (a1:aF) (a0:bQ):Nat->Int->Int->Option Int
 | 0,_,_=>none
 | c18+1,v15,v16=>
   if decide (v16<(a1.aO.length:Int)) then
    (bL a1.aO v16).bind λx23=>
    (gG a0 x23).bind λx29=>
    gW gG a1 a0 c18 (i64.wrap (v15+x29)) (i64.wrap (v16+1))
   else
    some v15
def eS (gG:bQ->aF->Option Int) (n:Nat) (a0:bQ) (a1:aF):Option Int:=
 if decide (a1.gA=([118,97,114]:cF)) then
  (bL a0.bN a1.fF).bind λx4=>
  (tT n x4).bind λx5=>
  some x5
 else
  (gW gG a1 a0 n 1 0).bind λy17=>
  some y17
def iK:Nat->bQ->aF->Option Int
 | 0=>λ_ _=>none
 | n+1=>eS (iK n) n
def xA (a0:aK) (a1:(List Int)):Option Int:=
 if a0.gA == 1 then
  some a0.N_
 else
  if decide ((i64.wrap a0.N_)<(a1.length:Int)) then
   (bL a1 a0.N_).bind λx4=>
   some x4
  else
   some 0
def vA (a0:Bool):Option Int:=
 if a0 then
  some 1
 else
  some 0
def As (a0:Int) (a1:Int):Option Int:=
 if a0 == 3 then
  some (comK .u32 a1)
 else
  some (u32.wrap (0 - a1))
def lX (a0:Int) (a1:Int):Option Int:=
 iG (0<=(wU .u64 (u64.wrap a1) 31)) <|
 iG (0<=(u64.wrap (32 - (wU .u64 (u64.wrap a1) 31)))) <|
 some (orK .u32 (shlK .u32 a0 (wU .u64 (u64.wrap a1) 31)) (HR .u32 a0 (u64.wrap (32 - (wU .u64 (u64.wrap a1) 31)))))
def tS (a0:Int) (a1:Int) (a2:Int):Option Int:=
 if a0 == 5 then
  some (orK .u32 a1 a2)
 else
  if a0 == 6 then
   some (xorK .u32 a1 a2)
  else
   if a0 == 7 then
    some (wU .u32 a1 a2)
   else
    if a0 == 10 then
     iG (0<=(wU .u32 a2 31)) <|
     some (shlK .u32 a1 (wU .u32 a2 31))
    else
     if a0 == 11 then
      iG (0<=(wU .u32 a2 31)) <|
      some (HR .u32 a1 (wU .u32 a2 31))
     else
      (lX a1 (i64.wrap (wU .u32 a2 31))).bind λx8=>
      some x8
def kD (a0:Int) (a1:Int) (a2:Int):Option (Int × Bool):=
 if a0 == 8 then
  (vA (a1 == a2)).bind λx2=>
  some (x2,true)
 else
  if a0 == 9 then
   (vA (decide (a1<a2))).bind λx5=>
   some (x5,true)
  else
   if a0 == 13 then
    some ((u32.wrap (a1+a2)),true)
   else
    if a0 == 14 then
     some ((u32.wrap (a1 - a2)),true)
    else
     if a0 == 15 then
      some ((u32.wrap (a1*a2)),true)
     else
      if a0 == 16 then
       if a2 == 0 then
        some (0,false)
       else
        iG (a2 ≠ 0) <|
        some ((u32.wrap (a1.tdiv a2)),true)
      else
       if a0 == 17 then
        if a2 == 0 then
         some (0,false)
        else
         iG (a2 ≠ 0) <|
         some ((a1.tmod a2),true)
       else
        (tS a0 a1 a2).bind λx16=>
        some (x16,true)
def lE (uL:aK->(List Int)->Option (Int × Bool)) (n:Nat) (a0:aK) (a1:(List Int)):Option (Int × Bool):=
 if (a0.aO.length:Int) == 0 then
  (xA a0 a1).bind λx3=>
  some (x3,true)
 else
  (bL a0.aO 0).bind λx5=>
  (uL x5 a1).bind λx6=>
  (if !x6.2 then
     some true
    else
     some ((a0.aO.length:Int) == 1)).bind λy13=>
  if y13 then
   (vA x6.2).bind λx19=>
   (As a0.gA x6.1).bind λx20=>
   some ((u32.wrap (x19*x20)),x6.2)
  else
   (bL a0.aO 1).bind λx23=>
   (uL x23 a1).bind λx24=>
   if !x24.2 then
    some (0,false)
   else
    (kD a0.gA x6.1 x24.1).bind λx32=>
    some (x32.1,x32.2)
def lR:Nat->aK->(List Int)->Option (Int × Bool)
 | 0=>λ_ _=>none
 | n+1=>lE (lR n) n
def Gu (a0:Int):Option aK:=
 some (aK.mk 1 a0 [])
@[go_sem] def pO (rJ:aK->Option aK) (a0:aK):Nat->Bool->Int->aK->Option (Bool × aK)
 | 0,_,_,_=>none
 | c9+1,v5,v6,v7=>
   if decide (v6<(a0.aO.length:Int)) then
    (bL a0.aO v6).bind λx14=>
    (rJ x14).bind λx20=>
    iG (v7.aO.length+[x20].length<=1073741824) <|
    (if v5 then
       some (x20.gA == 1)
      else
       some false).bind λy26=>
    pO rJ a0 c9 y26 (i64.wrap (v6+1)) ({ v7 with aO:=(v7.aO++[x20]) }:aK)
   else
    some (v5,v7)
def nH (rJ:aK->Option aK) (n:Nat) (a0:aK):Option aK:=
 (pO rJ a0 n (a0.gA != 2) 0 (aK.mk a0.gA a0.N_ [])).bind λy8=>
 if !y8.1 then
  some y8.2
 else
  (lR n y8.2 []).bind λx38=>
  if x38.2=true then
   (Gu x38.1).bind λx41=>
   some x41
  else
   some y8.2
def pK:Nat->aK->Option aK
 | 0=>λ_=>none
 | n+1=>nH (pK n) n
@[go_sem] def Bt (a0:cF):Nat->Int->Option (Unit ⊕ Int)
 | 0,_=>none
 | c4+1,v2=>
   if decide (v2<15) then
    (bL eB v2).bind λx9=>
    if decide (x9.IV=a0) then
     some (.inr x9.op_)
    else
     Bt a0 c4 (i64.wrap (v2+1))
   else
    some (.inl ())
def By (n:Nat) (a0:cF):Option Int:=
 (Bt a0 n 0).bind λy3=>
 y3.elim (λy3a=>
  some 0) (λy3a=>
  some y3a)
@[go_sem] def jU (gV:bQ->aF->Option aK) (a1:aF) (a0:bQ):Nat->Int->aK->Option aK
 | 0,_,_=>none
 | c23+1,v20,v21=>
   if decide (v20<(a1.aO.length:Int)) then
    (bL a1.aO v20).bind λx28=>
    (gV a0 x28).bind λx34=>
    iG (v21.aO.length+[x34].length<=1073741824) <|
    jU gV a1 a0 c23 (i64.wrap (v20+1)) ({ v21 with aO:=(v21.aO++[x34]) }:aK)
   else
    some v21
def fC (gV:bQ->aF->Option aK) (n:Nat) (a0:bQ) (a1:aF):Option aK:=
 if decide (a1.gA=([110,117,109]:cF)) then
  (Gu a1.N_).bind λx5=>
  some x5
 else
  if decide (a1.gA=([118,97,114]:cF)) then
   (bL a0.bN a1.fF).bind λx8=>
   some x8
  else
   (By n a1.gA).bind λx16=>
   (jU gV a1 a0 n 0 (aK.mk x16 0 [])).bind λy22=>
   some y22
def iU:Nat->bQ->aF->Option aK
 | 0=>λ_ _=>none
 | n+1=>fC (iU n) n
def pL (n:Nat) (a0:bQ) (a1:aF):Option (aK × Int):=
 if a1.cL != 1 then
  some ((aK.mk 0 0 []),132)
 else
  (iK n a0 a1).bind λx5=>
  if decide (2000<x5) then
   some ((aK.mk 0 0 []),161)
  else
   (iU n a0 a1).bind λx8=>
   (pK n x8).bind λx9=>
   some (x9,0)
def lJ (n:Nat) (a0:aS) (a1:aF):Option (aK × aS):=
 (pL n a0.c_ a1).bind λx3=>
 if a0.e_ == 0 then
  some (x3.1,({ a0 with e_:=x3.2 }:aS))
 else
  some (x3.1,a0)
@[go_sem] def qI (n:Nat) (a1:aF):Nat->Int->aS->Option aS
 | 0,_,_=>none
 | c30+1,v27,v28=>
   if decide (v27<(a1.aO.length:Int)) then
    (bL a1.aO v27).bind λx35=>
    (lJ n v28 x35).bind λx41=>
    qI n a1 c30 (i64.wrap (v27+1)) x41.2
   else
    some v28
@[go_sem] def qJ (gF:aS->aF->Option aS) (a1:aF):Nat->Int->aS->Option aS
 | 0,_,_=>none
 | c6+1,v3,v4=>
   if decide (v3<(a1.aO.length:Int)) then
    (bL a1.aO v3).bind λx11=>
    (gF v4 x11).bind λx17=>
    qJ gF a1 c6 (i64.wrap (v3+1)) x17
   else
    some v4
def oI (gF:aS->aF->Option aS) (n:Nat) (a0:aS) (a1:aF):Option aS:=
 (qJ gF a1 n 0 a0).bind λy5=>
 (if decide (a1.gA=([105,110,100,101,120]:cF)) then
    some true
   else
    if decide (a1.gA=([47]:cF)) then
     some true
    else
     some (decide (a1.gA=([37]:cF)))).bind λy43=>
 if y43 then
  (qI n a1 n 0 y5).bind λy53=>
  some y53
 else
  some y5
def lL:Nat->aS->aF->Option aS
 | 0=>λ_ _=>none
 | n+1=>oI (lL n) n
def EE (a0:(List Int)) (a1:Int) (a2:Int):Option Int:=
 if decide ((i64.wrap a1)<(a0.length:Int)) then
  (bL a0 a1).bind λx2=>
  some x2
 else
  some a2
def qP (a0:Int) (a1:Int) (a2:Int):Option (Int × Int):=
 some ((u32.wrap (u64.wrap ((u64.wrap ((u64.wrap a0)+(u64.wrap a1)))+(u64.wrap a2)))),(u32.wrap (HR .u64 (u64.wrap ((u64.wrap ((u64.wrap a0)+(u64.wrap a1)))+(u64.wrap a2))) 32)))
def FK (a0:bW) (a1:bW):Option bW:=
 (qP a0.BY a1.BY 0).bind λx4=>
 (qP a0.rX a1.rX 0).bind λx6=>
 if x6.2 == 1 then
  some (bW.mk 0 4294967295)
 else
  some (bW.mk x4.1 x6.1)
def sI (a0:Int) (a1:Int):Option (Int × Int):=
 some ((u32.wrap (HR .u64 (u64.wrap ((u64.wrap a0)*(u64.wrap a1))) 32)),(u32.wrap (u64.wrap ((u64.wrap a0)*(u64.wrap a1)))))
def xY (a0:bW) (a1:bW):Option bW:=
 (sI a0.rX a1.rX).bind λx4=>
 if decide (0<x4.1) then
  some (bW.mk 0 4294967295)
 else
  some (bW.mk (u32.wrap (a0.BY*a1.BY)) x4.2)
def wZ (a0:Int) (a1:bW) (a2:bW):Option bW:=
 if a0 == 8 then
  some (bW.mk 0 1)
 else
  if a0 == 9 then
   some (bW.mk 0 1)
  else
   if a0 == 7 then
    some (bW.mk 0 (min a1.rX a2.rX))
   else
    if a0 == 13 then
     (FK a1 a2).bind λx8=>
     some x8
    else
     if a0 == 14 then
      if decide (a2.rX<=a1.BY) then
       some (bW.mk (u32.wrap (a1.BY - a2.rX)) (u32.wrap (a1.rX - a2.BY)))
      else
       some (bW.mk 0 4294967295)
     else
      if a0 == 15 then
       (xY a1 a2).bind λx13=>
       some x13
      else
       if a0 == 16 then
        iG ((max a2.rX 1) ≠ 0) <|
        iG ((max a2.BY 1) ≠ 0) <|
        some (bW.mk (u32.wrap (a1.BY.tdiv (max a2.rX 1))) (u32.wrap (a1.rX.tdiv (max a2.BY 1))))
       else
        if a0 == 17 then
         some (bW.mk 0 (min a1.rX (u32.wrap ((max a2.rX 1) - 1))))
        else
         if a0 == 11 then
          some (bW.mk 0 a1.rX)
         else
          some (bW.mk 0 4294967295)
def nW (tC:aK->(List Int)->(List Int)->Option bW) (n:Nat) (a0:aK) (a1:(List Int)) (a2:(List Int)):Option bW:=
 if a0.gA == 1 then
  some (bW.mk a0.N_ a0.N_)
 else
  if a0.gA == 2 then
   (EE a1 a0.N_ 0).bind λx5=>
   (EE a2 a0.N_ 4294967295).bind λx6=>
   some (bW.mk x5 x6)
  else
   if a0.gA == 3 then
    some (bW.mk 0 4294967295)
   else
    if a0.gA == 4 then
     some (bW.mk 0 4294967295)
    else
     (bL a0.aO 0).bind λx11=>
     (tC x11 a1 a2).bind λx12=>
     (bL a0.aO 1).bind λx13=>
     (tC x13 a1 a2).bind λx14=>
     (wZ a0.gA x12 x14).bind λx15=>
     some x15
def tR:Nat->aK->(List Int)->(List Int)->Option bW
 | 0=>λ_ _ _=>none
 | n+1=>nW (tR n) n
def BG (n:Nat) (a0:aK) (a1:(List Int)) (a2:(List Int)):Option (Int × Int):=
 (tR n a0 a1 a2).bind λx2=>
 some (x2.BY,x2.rX)
def gS (n:Nat) (a0:bQ) (a1:aF):Option (Int × Int):=
 (pL n a0 a1).bind λx3=>
 if x3.2 != 0 then
  some (0,4294967295)
 else
  (BG n x3.1 a0.sZ a0.nD).bind λx7=>
  some (x7.1,x7.2)
def lK (n:Nat) (a0:aS) (a1:aB):Option aS:=
 (bL a1.aO 0).bind λx2=>
 (gS n a0.c_ x2).bind λx3=>
 (bL a1.aO 1).bind λx10=>
 (gS n a0.c_ x10).bind λx11=>
 (EF (i64.wrap (4+(a0.c_.gM.length:Int)))).bind λx18=>
 (bL a0.c_.bN a1.fF).bind λx19=>
 iG (a0.c_.gM.length+[a1.fF].length<=1073741824) <|
 iG (a0.c_.sZ.length+[x3.1].length<=1073741824) <|
 iG (a0.c_.nD.length+[(max x3.1 (u32.wrap ((max x11.2 1) - 1)))].length<=1073741824) <|
 some ({ a0 with c_:=(bQ.mk (a0.c_.bN.set a1.fF.toNat x18) (a0.c_.gM++[a1.fF]) (a0.c_.sZ++[x3.1]) (a0.c_.nD++[(max x3.1 (u32.wrap ((max x11.2 1) - 1)))])) }:aS)
@[go_sem] def mU (n:Nat) (x11:aB):Nat->Int->aS->Option aS
 | 0,_,_=>none
 | c21+1,v18,v19=>
   if decide (v18<(x11.aO.length:Int)) then
    ((bL x11.aO v18).bind λx27=>
      (lL n v19 x27).bind λx33=>
      (if decide (x11.gA=([108,101,116]:cF)) then
         some true
        else
         if decide (x11.gA=([105,102]:cF)) then
          some true
         else
          if decide (x11.gA=([102,111,114]:cF)) then
           some true
          else
           if decide (x11.gA=([112,117,116]:cF)) then
            some (v18 == 0)
           else
            some false).bind λy35=>
      if y35 then
       (lJ n x33 x27).bind λx44=>
       if decide (x11.gA=([108,101,116]:cF)) then
        (bL x44.2.c_.bN x11.fF).bind λx48=>
        some ({ x44.2 with c_:=({ x44.2.c_ with bN:=(x44.2.c_.bN.set x11.fF.toNat x44.1) }:bQ) }:aS)
       else
        some x44.2
      else
       some x33).bind λy26=>
    mU n x11 c21 (i64.wrap (v18+1)) y26
   else
    some v19
@[go_sem] def gH (dR:aS->(List aB)->Option aS) (n:Nat) (a1:(List aB)):Nat->Int->aS->Option (aS ⊕ aS)
 | 0,_,_=>none
 | c5+1,v2,v3=>
   if decide (v2<(a1.length:Int)) then
    ((bL a1 v2).bind λx11=>
      (mU n x11 n 0 v3).bind λy20=>
      (if y20.e_ == 0 then
         some (decide (x11.gA=([102,111,114]:cF)))
        else
         some false).bind λy79=>
      if y79 then
       (lK n y20 x11).bind λx85=>
       if x85.e_ != 0 then
        some (.inr x85)
       else
        (dR x85 x11.bO).bind λx88=>
        (dR x88 x11.fE).bind λx90=>
        some (.inl x90)
      else
       if y20.e_ != 0 then
        some (.inr y20)
       else
        (dR y20 x11.bO).bind λx93=>
        (dR x93 x11.fE).bind λx95=>
        some (.inl x95):Option (aS ⊕ aS)).bind λy10=>
    y10.elim (λy10a=>
     gH dR n a1 c5 (i64.wrap (v2+1)) y10a) (λy10a=>
     some (.inr y10a))
   else
    some (.inl v3)
def nO (dR:aS->(List aB)->Option aS) (n:Nat) (a0:aS) (a1:(List aB)):Option aS:=
 (gH dR n a1 n 0 a0).bind λy4=>
 y4.elim (λy4a=>
  some y4a) (λy4a=>
  some y4a)
def fY:Nat->aS->(List aB)->Option aS
 | 0=>λ_ _=>none
 | n+1=>nO (fY n) n
@[go_sem] def sJ (a0:aT):Nat->Int->aS->Option aS
 | 0,_,_=>none
 | c29+1,v26,v27=>
   if decide (v26<((a0.aW.take a0.bB.toNat).length:Int)) then
    ((bL (a0.aW.take a0.bB.toNat) v26).bind λx35=>
      if x35.bS == 1 then
       (EF v26).bind λx42=>
       (bL v27.c_.bN v26).bind λx43=>
       some ({ v27 with c_:=({ v27.c_ with bN:=(v27.c_.bN.set v26.toNat x42) }:bQ) }:aS)
      else
       some v27).bind λy34=>
    sJ a0 c29 (i64.wrap (v26+1)) y34
   else
    some v27
def tZ (n:Nat) (a0:aT):Option (bQ × Int):=
 (if decide (4<a0.bB) then
    some true
   else
    (xK n a0.bO).bind λx5=>
    some (decide (250<x5))).bind λy3=>
 if y3 then
  some ((bQ.mk [] [] [] []),136)
 else
  (tN [4294967295] 4).bind λx11=>
  iG (0<=(a0.aW.length:Int)/\(a0.aW.length:Int)<=1073741824) <|
  iG (0<=a0.bB/\a0.bB<=(a0.aW.length:Int)) <|
  (sJ a0 n 0 (aS.mk (bQ.mk (List.replicate a0.aW.length aK.Z) [] [0,0,0,0] x11) 0)).bind λy28=>
  (fY n y28 a0.bO).bind λx60=>
  if x60.e_ != 0 then
   some ((bQ.mk [] [] [] []),x60.e_)
  else
   some (x60.c_,0)
def cJ (a0:bQ) (a1:Int):Option Int:=
 (if decide (a1<0) then
    some true
   else
    if decide ((a0.bN.length:Int)<=a1) then
     some true
    else
     (bL a0.bN a1).bind λx5=>
     some (x5.gA != 2)).bind λy2=>
 if y2 then
  some (-1:Int)
 else
  (bL a0.bN a1).bind λx14=>
  (if decide ((i64.wrap x14.N_)<4) then
     if (i64.wrap x14.N_) == a1 then
      some true
     else
      if decide (4<=(i64.wrap x14.N_)) then
       if decide ((i64.wrap ((i64.wrap x14.N_) - 4))<(a0.gM.length:Int)) then
        (bL a0.gM (i64.wrap ((i64.wrap x14.N_) - 4))).bind λx24=>
        some (x24 == a1)
       else
        some false
      else
       some false
    else
     if decide (4<=(i64.wrap x14.N_)) then
      if decide ((i64.wrap ((i64.wrap x14.N_) - 4))<(a0.gM.length:Int)) then
       (bL a0.gM (i64.wrap ((i64.wrap x14.N_) - 4))).bind λx31=>
       some (x31 == a1)
      else
       some false
     else
      some false).bind λy19=>
  if y19 then
   some (i64.wrap x14.N_)
  else
   some (-1:Int)
def lS (n:Nat):Option Bool:=
 (nE n ([102,110,32,102,40,112,58,32,112,117,98,41,32,123,32,102,111,114,32,105,32,105,110,32,48,32,46,46,32,112,32,123,32,108,101,116,32,113,32,61,32,105,32,42,32,50,59,32,125,32,125]:cF) 0).bind λx1=>
 (tZ n x1.1).bind λx5=>
 (if !x1.2.2 then
    some true
   else
    if x5.2 != 0 then
     some true
    else
     some ((x5.1.bN.length:Int) != 3)).bind λy8=>
 if y8 then
  some false
 else
  (bL x5.1.bN 2).bind λx15=>
  (lR n x15 [0,0,0,0,21]).bind λx16=>
  (if x16.2=true then
     if x16.1 == 42 then
      (cJ x5.1 1).bind λx26=>
      some (x26 == 4)
     else
      some false
    else
     some false).bind λy23=>
  some y23
@[go_sem] def qD (dW:(List aB)->Option (List Int)) (a0:(List aB)):Nat->(List Int)->Int->Option (List Int)
 | 0,_,_=>none
 | c5+1,v2,v3=>
   if decide (v3<(a0.length:Int)) then
    ((bL a0 v3).bind λx11=>
      if decide (x11.gA=([102,111,114]:cF)) then
       iG (v2.length+[x11.fF].length<=1073741824) <|
       (dW x11.bO).bind λx21=>
       iG ((v2++[x11.fF]).length+x21.length<=1073741824) <|
       (dW x11.fE).bind λx25=>
       iG (((v2++[x11.fF])++x21).length+x25.length<=1073741824) <|
       some (((v2++[x11.fF])++x21)++x25)
      else
       (dW x11.bO).bind λx29=>
       iG (v2.length+x29.length<=1073741824) <|
       (dW x11.fE).bind λx33=>
       iG ((v2++x29).length+x33.length<=1073741824) <|
       some ((v2++x29)++x33)).bind λy10=>
    qD dW a0 c5 y10 (i64.wrap (v3+1))
   else
    some v2
def nZ (dW:(List aB)->Option (List Int)) (n:Nat) (a0:(List aB)):Option (List Int):=
 (qD dW a0 n [] 0).bind λy4=>
 some y4
def jG:Nat->(List aB)->Option (List Int)
 | 0=>λ_=>none
 | n+1=>nZ (jG n) n
def zX (a0:Int):Option Int:=
 if decide (a0<=2) then
  some 0
 else
  if decide (a0<=4) then
   some 1
  else
   some 2
def vT (dA:(List aK)->Option Bool) (n:Nat) (a0:aK):Option Bool:=
 (if decide (a0.gA<1) then
    some true
   else
    if decide (17<a0.gA) then
     some true
    else
     (zX a0.gA).bind λx5=>
     if (a0.aO.length:Int) != x5 then
      some true
     else
      if decide (2<a0.gA) then
       if a0.N_ != 0 then
        some true
       else
        if a0.gA == 2 then
         some (decide (255<a0.N_))
        else
         some false
      else
       if a0.gA == 2 then
        some (decide (255<a0.N_))
       else
        some false).bind λy2=>
 if y2 then
  some false
 else
  (dA a0.aO).bind λx16=>
  some (!x16)
def dE (dG:(List aK)->Option Int) (n:Nat) (a0:(List aK)):Option Bool:=
 (dG a0).bind λx1=>
 some (decide (0<=x1))
def sF (uG:aK->Option Bool) (n:Nat) (a0:aK):Option Bool:=
 (uG a0).bind λx2=>
 some (!x2)
@[go_sem] def eL (mL:aK->Option Bool) (a0:(List aK)):Nat->Int->Option (Unit ⊕ Int)
 | 0,_=>none
 | c4+1,v2=>
   if decide (v2<(a0.length:Int)) then
    (bL a0 v2).bind λx9=>
    (mL x9).bind λx10=>
    if x10 then
     some (.inr v2)
    else
     eL mL a0 c4 (i64.wrap (v2+1))
   else
    some (.inl ())
def dL (mL:aK->Option Bool) (n:Nat) (a0:(List aK)):Option Int:=
 (eL mL a0 n 0).bind λy3=>
 y3.elim (λy3a=>
  some (-1:Int)) (λy3a=>
  some y3a)
def eJ:Nat->(aK->Option Bool) × ((List aK)->Option Bool) × (aK->Option Bool) × ((List aK)->Option Int)
 | 0=>(λ_=>none,λ_=>none,λ_=>none,λ_=>none)
 | n+1=>(vT (eJ n).2.1 n,dE (eJ n).2.2.2 n,sF (eJ n).1 n,dL (eJ n).2.2.1 n)
def CY (n:Nat):aK->Option Bool:=(eJ n).1
def rM (n:Nat):(List aK)->Option Bool:=(eJ n).2.1
def Ll (n:Nat):aK->Option Bool:=(eJ n).2.2.1
def rZ (n:Nat):(List aK)->Option Int:=(eJ n).2.2.2
def sG (n:Nat) (a0:aK):Option Bool:=
 ((tT n a0).bind λx3=>
   if decide (x3<=16384) then
    (CY n a0).bind λx6=>
    some x6
   else
    some false).bind λy2=>
 some y2
@[go_sem] def iV (n:Nat) (x4:(aT × bG × Bool)) (x9:(bQ × Int)):Nat->Int->Option (Unit ⊕ Bool)
 | 0,_=>none
 | c65+1,v63=>
   if decide (v63<(x4.1.aW.length:Int)) then
    ((bL x4.1.aW v63).bind λx71=>
      (bL x9.1.bN v63).bind λx77=>
      if x71.bS != 1 then
       (if x77.gA != 0 then
          some true
         else
          (cJ x9.1 v63).bind λx86=>
          some (x86 != (-1:Int))).bind λy84=>
       if y84 then
        some (.inr false)
       else
        some (.inl ())
      else
       ((sG n x77).bind λx93=>
         if !x93 then
          some true
         else
          (tT n x77).bind λx96=>
          if decide (2000<x96) then
           some true
          else
           if decide (v63<x4.1.bB) then
            (cJ x9.1 v63).bind λx100=>
            some (x100 != v63)
           else
            some false).bind λy92=>
       if y92 then
        some (.inr false)
       else
        some (.inl ()):Option (Unit ⊕ Bool)).bind λy70=>
    y70.elim (λy70a=>
     iV n x4 x9 c65 (i64.wrap (v63+1))) (λy70a=>
     some (.inr y70a))
   else
    some (.inl ())
@[go_sem] def lT (x12:(List Int)) (x9:(bQ × Int)):Nat->Int->Option (Unit ⊕ Bool)
 | 0,_=>none
 | c39+1,v37=>
   if decide (v37<(x12.length:Int)) then
    (bL x12 v37).bind λx44=>
    ((bL x9.1.gM v37).bind λx50=>
      if x50 != x44 then
       some true
      else
       (cJ x9.1 x44).bind λx56=>
       some (x56 != (i64.wrap (4+v37)))).bind λy49=>
    if y49 then
     some (.inr false)
    else
     lT x12 x9 c39 (i64.wrap (v37+1))
   else
    some (.inl ())
def kR (n:Nat) (a0:cF) (a1:Int):Option Bool:=
 (lS n).bind λx1=>
 if !x1 then
  some false
 else
  (nE n a0 a1).bind λx4=>
  if !x4.2.2 then
   some true
  else
   (tZ n x4.1).bind λx9=>
   (jG n x4.1.bO).bind λx12=>
   if x9.2 != 0 then
    (if x9.2 == 136 then
       if decide (250<(x12.length:Int)) then
        some true
       else
        if decide (4<x4.1.bB) then
         some true
        else
         if x9.2 == 161 then
          if decide ((x12.length:Int)<=250) then
           some (decide (x4.1.bB<=4))
          else
           some false
         else
          some false
      else
       if x9.2 == 161 then
        if decide ((x12.length:Int)<=250) then
         some (decide (x4.1.bB<=4))
        else
         some false
       else
        some false).bind λy15=>
    some y15
   else
    (if decide (250<(x12.length:Int)) then
       some true
      else
       if decide (4<x4.1.bB) then
        some true
       else
        if (x9.1.gM.length:Int) != (x12.length:Int) then
         some true
        else
         if (x9.1.sZ.length:Int) != (i64.wrap (4+(x12.length:Int))) then
          some true
         else
          if (x9.1.nD.length:Int) != (i64.wrap (4+(x12.length:Int))) then
           some true
          else
           some ((x9.1.bN.length:Int) != (x4.1.aW.length:Int))).bind λy26=>
    if y26 then
     some false
    else
     (lT x12 x9 n 0).bind λy38=>
     y38.elim (λy38a=>
      (iV n x4 x9 n 0).bind λy129=>
      y129.elim (λy129a=>
       ((cJ x9.1 (-1:Int)).bind λx184=>
         if x184 == (-1:Int) then
          (cJ x9.1 (x4.1.aW.length:Int)).bind λx187=>
          some (x187 == (-1:Int))
         else
          some false).bind λy183=>
       some y183) (λy129a=>
       some y129a)) (λy38a=>
      some y38a)
