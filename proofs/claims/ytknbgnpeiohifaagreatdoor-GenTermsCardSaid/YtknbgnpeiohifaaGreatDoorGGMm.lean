import Derived.Test.YtknbgnpeiohifaaGreatDoorGS3
namespace Go.Proofs.YtknbgnpeiohifaaGreatDoor.Abs
open IntKind (i64 u32 u64 u8)
open Go.RowKit
set_option linter.all false
structure bK where
 VX:cB
 WD:Int
def bK.C (x:bK):List V:=[.lit (.string (bs x.VX)),.lit (.int .i64 x.WD)]
@[go_sem] theorem bK.C_eq (x:bK):bK.C x=[.lit (.string (bs x.VX)),.lit (.int .i64 x.WD)]:=rI rfl
structure bV where
 AA:Int
 qT:Int
def bV.C (x:bV):List V:=[.lit (.int .u32 x.AA),.lit (.int .u32 x.qT)]
@[go_sem] theorem bV.C_eq (x:bV):bV.C x=[.lit (.int .u32 x.AA),.lit (.int .u32 x.qT)]:=rI rfl
structure bG where
 GF:cB
 op_:Int
def bG.C (x:bG):List V:=[.lit (.string (bs x.GF)),.lit (.int .i64 x.op_)]
@[go_sem] theorem bG.C_eq (x:bG):bG.C x=[.lit (.string (bs x.GF)),.lit (.int .i64 x.op_)]:=rI rfl
structure bT where
 to_:Int
 Ws:Int
def bT.C (x:bT):List V:=[.lit (.int .i64 x.to_),.lit (.int .i64 x.Ws)]
@[go_sem] theorem bT.C_eq (x:bT):bT.C x=[.lit (.int .i64 x.to_),.lit (.int .i64 x.Ws)]:=rI rfl
structure bP where
 GF:cB
 Wg:Int
def bP.C (x:bP):List V:=[.lit (.string (bs x.GF)),.lit (.int .i64 x.Wg)]
@[go_sem] theorem bP.C_eq (x:bP):bP.C x=[.lit (.string (bs x.GF)),.lit (.int .i64 x.Wg)]:=rI rfl
structure eA where
 bJ:Int
 gI:Int
 dM:cB
 pX:Int
def eA.C (x:eA):List V:=[.lit (.int .i64 x.bJ),.lit (.int .i64 x.gI),.lit (.string (bs x.dM)),.lit (.int .u32 x.pX)]
@[go_sem] theorem eA.C_eq (x:eA):eA.C x=[.lit (.int .i64 x.bJ),.lit (.int .i64 x.gI),.lit (.string (bs x.dM)),.lit (.int .u32 x.pX)]:=rI rfl
structure aC where
 bJ:Int
 gI:Int
 dM:cB
 pX:Int
 aN:(List aC)
mutual
def aC.C:aC->List V
 | ⟨a0,a1,a2,a3,a4⟩=>[.lit (.int .i64 a0),.lit (.int .i64 a1),.lit (.string (bs a2)),.lit (.int .u32 a3),.list .none (aC.CL a4)]
def aC.CL:List aC->List (List V)
 | []=>[]
 | x::l=>aC.C x::aC.CL l
end
theorem aC.CL_eq (l:List aC):aC.CL l=l.map aC.C:=by
 induction l with
 | nil=>rfl
 | cons x l ih=>rw [aC.CL,ih];rfl
@[go_sem] theorem aC.C_eq (x:aC):aC.C x=[.lit (.int .i64 x.bJ),.lit (.int .i64 x.gI),.lit (.string (bs x.dM)),.lit (.int .u32 x.pX),.list .none (x.aN.map aC.C)]:=by
 cases x;simp only [aC.C,aC.CL_eq]
structure aD where
 l_:(List eA)
 fW:Int
 BR:Int
 e_:Int
 FL:Int
def aD.C (x:aD):List V:=[.list .none (x.l_.map eA.C),.lit (.int .i64 x.fW),.lit (.int .i64 x.BR),.lit (.int .i64 x.e_),.lit (.int .i64 x.FL)]
@[go_sem] theorem aD.C_eq (x:aD):aD.C x=[.list .none (x.l_.map eA.C),.lit (.int .i64 x.fW),.lit (.int .i64 x.BR),.lit (.int .i64 x.e_),.lit (.int .i64 x.FL)]:=rI rfl
structure aK where
 iE:cB
 bJ:Int
 jR:Int
def aK.C (x:aK):List V:=[.lit (.string (bs x.iE)),.lit (.int .i64 x.bJ),.lit (.int .i64 x.jR)]
@[go_sem] theorem aK.C_eq (x:aK):aK.C x=[.lit (.string (bs x.iE)),.lit (.int .i64 x.bJ),.lit (.int .i64 x.jR)]:=rI rfl
structure aB where
 dJ:cB
 bR:Int
 N_:Int
 fB:Int
 aN:(List aB)
 gI:Int
mutual
def aB.C:aB->List V
 | ⟨a0,a1,a2,a3,a4,a5⟩=>[.lit (.string (bs a0)),.lit (.int .i64 a1),.lit (.int .u32 a2),.lit (.int .i64 a3),.list .none (aB.CL a4),.lit (.int .i64 a5)]
def aB.CL:List aB->List (List V)
 | []=>[]
 | x::l=>aB.C x::aB.CL l
end
theorem aB.CL_eq (l:List aB):aB.CL l=l.map aB.C:=by
 induction l with
 | nil=>rfl
 | cons x l ih=>rw [aB.CL,ih];rfl
@[go_sem] theorem aB.C_eq (x:aB):aB.C x=[.lit (.string (bs x.dJ)),.lit (.int .i64 x.bR),.lit (.int .u32 x.N_),.lit (.int .i64 x.fB),.list .none (x.aN.map aB.C),.lit (.int .i64 x.gI)]:=by
 cases x;simp only [aB.C,aB.CL_eq]
structure aA where
 dJ:cB
 fB:Int
 iO:Int
 aN:(List aB)
 bH:(List aA)
 eG:(List aA)
 gI:Int
mutual
def aA.C:aA->List V
 | ⟨a0,a1,a2,a3,a4,a5,a6⟩=>[.lit (.string (bs a0)),.lit (.int .i64 a1),.lit (.int .i64 a2),.list .none (a3.map aB.C),.list .none (aA.CL a4),.list .none (aA.CL a5),.lit (.int .i64 a6)]
def aA.CL:List aA->List (List V)
 | []=>[]
 | x::l=>aA.C x::aA.CL l
end
theorem aA.CL_eq (l:List aA):aA.CL l=l.map aA.C:=by
 induction l with
 | nil=>rfl
 | cons x l ih=>rw [aA.CL,ih];rfl
@[go_sem] theorem aA.C_eq (x:aA):aA.C x=[.lit (.string (bs x.dJ)),.lit (.int .i64 x.fB),.lit (.int .i64 x.iO),.list .none (x.aN.map aB.C),.list .none (x.bH.map aA.C),.list .none (x.eG.map aA.C),.lit (.int .i64 x.gI)]:=by
 cases x;simp only [aA.C,aA.CL_eq]
structure aJ where
 iE:cB
 eK:Bool
 bO:Int
 aT:Int
 aQ:(List aK)
 bH:(List aA)
def aJ.C (x:aJ):List V:=[.lit (.string (bs x.iE)),.lit (.bool x.eK),.lit (.int .i64 x.bO),.lit (.int .i64 x.aT),.list .none (x.aQ.map aK.C),.list .none (x.bH.map aA.C)]
@[go_sem] theorem aJ.C_eq (x:aJ):aJ.C x=[.lit (.string (bs x.iE)),.lit (.bool x.eK),.lit (.int .i64 x.bO),.lit (.int .i64 x.aT),.list .none (x.aQ.map aK.C),.list .none (x.bH.map aA.C)]:=rI rfl
structure bM where
 bC:(List aJ)
def bM.C (x:bM):List V:=[.list .none (x.bC.map aJ.C)]
@[go_sem] theorem bM.C_eq (x:bM):bM.C x=[.list .none (x.bC.map aJ.C)]:=rI rfl
def bM.Z:bM:=⟨[]⟩
structure aG where
 e_:Int
 FL:Int
structure aE where
 p_:bM
 f_:Int
 bI:List Int
 cF:List (List Int)
 fW:Int
def aE.Z:aE:=⟨bM.Z,-1,[],[],0⟩
def sZ (F fp S C:V) (x:aE) (y:aG):List V:=[F,fp,S,C,.lit (.int .i64 x.fW),.lit (.int .i64 y.e_),.lit (.int .i64 y.FL)]
@[go_sem] theorem ckC_eq {F fp S C:V} {x:aE} {y:aG}:sZ F fp S C x y=[F,fp,S,C,.lit (.int .i64 x.fW),.lit (.int .i64 y.e_),.lit (.int .i64 y.FL)]:=rI rfl
def gL:List cB:=[[45,62],[46,46],[61,61],[60,60,60],[60,60],[62,62],[60],[40],[41],[123],[125],[91],[93],[44],[59],[58],[61],[43],[45],[42],[47],[37],[38],[124],[94],[126]]
@[go_sem] theorem YC:(cA cS gL).length=26:=ze
@[go_sem] theorem XK:(cA cS gL).take 26=(cA cS gL):=ze
def cL:List cB:=[[102,110],[101,120,112,111,114,116],[108,101,116],[118,97,114],[97,114,114],[105,102],[101,108,115,101],[102,111,114],[105,110],[114,101,116,117,114,110],[112,117,98],[117,51,50],[117,54,52]]
@[go_sem] theorem Wo:(cA cS cL).length=13:=ze
@[go_sem] theorem Uo:FI 1 13 (cA cS cL)=cL.map cS:=rI rfl
def dH:List (List cB):=[[[124],[],[]],[[94],[],[]],[[38],[],[]],[[61,61],[60],[]],[[60,60],[62,62],[60,60,60]],[[43],[45],[]],[[42],[47],[37]]]
def cV:List bK:=[(bK.mk [115,101,108,101,99,116] 3),(bK.mk [108,111,110,103] 1),(bK.mk [108,111] 1),(bK.mk [104,105] 1),(bK.mk [119,105,100,101] 2)]
@[go_sem] theorem Wr:(cA bK.C cV).length=10:=ze
@[go_sem] theorem Ve:(cA bK.C cV).take 10=(cA bK.C cV):=ze
@[go_sem] theorem TM:(cA bK.C cV).map V.shared=(cA bK.C cV):=rI rfl
def cD:List bG:=[(bG.mk [124] 5),(bG.mk [94] 6),(bG.mk [38] 7),(bG.mk [61,61] 8),(bG.mk [60] 9),(bG.mk [60,60] 10),(bG.mk [62,62] 11),(bG.mk [60,60,60] 12),(bG.mk [43] 13),(bG.mk [45] 14),(bG.mk [42] 15),(bG.mk [47] 16),(bG.mk [37] 17),(bG.mk [110,111,116] 3),(bG.mk [110,101,103] 4)]
@[go_sem] theorem XL:(cA bG.C cD).length=30:=ze
@[go_sem] theorem Wp:(cA bG.C cD).take 30=(cA bG.C cD):=ze
@[go_sem] theorem Up:(cA bG.C cD).map V.shared=(cA bG.C cD):=rI rfl
def dW:List bT:=[(bT.mk 0 0),(bT.mk 1 0),(bT.mk 1 0),(bT.mk 0 1),(bT.mk 1 0),(bT.mk 1 2),(bT.mk 0 3),(bT.mk 1 2),(bT.mk 1 2),(bT.mk 1 2),(bT.mk 1 2),(bT.mk 1 2),(bT.mk 1 2),(bT.mk 1 2),(bT.mk 1 2),(bT.mk 1 2),(bT.mk 1 1),(bT.mk 1 1),(bT.mk 1 1),(bT.mk 1 1),(bT.mk 1 1),(bT.mk 1 2),(bT.mk 1 2),(bT.mk 2 4),(bT.mk 2 4),(bT.mk 1 4),(bT.mk 2 2),(bT.mk 1 1),(bT.mk 1 2),(bT.mk 1 3),(bT.mk 0 1),(bT.mk 0 1)]
def dR:List bP:=[(bP.mk [124] 8),(bP.mk [94] 9),(bP.mk [38] 7),(bP.mk [43] 10),(bP.mk [45] 11),(bP.mk [42] 12),(bP.mk [60] 21),(bP.mk [61,61] 22)]
@[go_sem] theorem XM:(cA bP.C dR).length=16:=ze
@[go_sem] theorem Wq:(cA bP.C dR).take 16=(cA bP.C dR):=ze
@[go_sem] theorem Uq:(cA bP.C dR).map V.shared=(cA bP.C dR):=rI rfl
def DL (a0:Int):Option Bool:=
 (if a0 == 32 then
    some true
   else
    if a0 == 9 then
     some true
    else
     if a0 == 13 then
      some true
     else
      some (a0 == 10)).bind λy1=>
 some y1
def gN (a0:cB) (a1:cB):Option Bool:=
 (if decide ((a1.length:Int)<=(a0.length:Int)) then
    iN (0<=(a1.length:Int)/\(a1.length:Int)<=(a0.length:Int)) <|
    some (decide ((a0.take (a1.length:Int).toNat)=a1))
   else
    some false).bind λy1=>
 some y1
def pB (a0:cB) (a1:cB):Option Bool:=
 (gN a0 a1).bind λx1=>
 some x1
def pT (a0:cB) (a1:Int):Option Int:=some (Lib.indexByte a0 a1.toNat.toUInt8)
def mR (a0:cB) (a1:Int):Option Int:=
 (pT a0 a1).bind λx1=>
 some x1
def pA (a0:cB) (a1:Int):Option Int:=
 (mR a0 a1).bind λx1=>
 some x1
@[go_sem] def CG (a0:cB):Nat->Int->Option (Int ⊕ Int)
 | 0,_=>none
 | c4+1,v2=>
   if decide (v2<(a0.length:Int)) then
    (aZ a0 v2).bind λx9=>
    (DL (x9.toNat:Int)).bind λx10=>
    if x10 then
     CG a0 c4 (i64.wrap (v2+1))
    else
     iN (0<=v2/\v2<=(a0.length:Int)) <|
     (pB (a0.drop v2.toNat) ([47,47]:cB)).bind λx17=>
     if x17 then
      iN (0<=v2/\v2<=(a0.length:Int)) <|
      (pA (a0.drop v2.toNat) 10).bind λx22=>
      if decide (x22<0) then
       some (.inr (a0.length:Int))
      else
       CG a0 c4 (i64.wrap (v2+x22))
     else
      some (.inr v2)
   else
    some (.inl v2)
def Ew (n:Nat) (a0:cB) (a1:Int):Option Int:=
 (CG a0 n a1).bind λy3=>
 y3.elim (λy3a=>
  some y3a) (λy3a=>
  some y3a)
def Ad (a0:Int):Option Bool:=
 (if decide (97<=a0) then
    if decide (a0<=122) then
     some true
    else
     some (a0 == 95)
   else
    some (a0 == 95)).bind λy1=>
 some y1
def BT (a0:Int):Option Bool:=
 (if decide (48<=a0) then
    some (decide (a0<=57))
   else
    some false).bind λy1=>
 some y1
@[go_sem] def FE (a0:cB):Nat->Int->Option (Unit ⊕ cB)
 | 0,_=>none
 | c4+1,v2=>
   if decide (v2<(a0.length:Int)) then
    ((aZ a0 v2).bind λx10=>
      (Ad (x10.toNat:Int)).bind λx11=>
      if !x11 then
       (BT (x10.toNat:Int)).bind λx18=>
       some (!x18)
      else
       some false).bind λy9=>
    if y9 then
     iN (0<=v2/\v2<=(a0.length:Int)) <|
     some (.inr (a0.take v2.toNat))
    else
     FE a0 c4 (i64.wrap (v2+1))
   else
    some (.inl ())
def Hj (n:Nat) (a0:cB):Option cB:=
 (FE a0 n 0).bind λy3=>
 y3.elim (λy3a=>
  some a0) (λy3a=>
  some y3a)
def kB (a0:cB) (a1:cB):Option (cB × Bool):=
 (gN a0 a1).bind λx1=>
 if !x1 then
  some (a0,false)
 else
  iN (0<=(a1.length:Int)/\(a1.length:Int)<=(a0.length:Int)) <|
  some ((a0.drop (a1.length:Int).toNat),true)
def sK (a0:cB) (a1:cB):Option (cB × Bool):=
 (kB a0 a1).bind λx1=>
 some (x1.1,x1.2)
@[go_sem] def DA (x1:(cB × Bool)):Nat->Int->Int->Option (Int ⊕ (Int × Bool))
 | 0,_,_=>none
 | c8+1,v5,v6=>
   if decide (v6<(x1.1.length:Int)) then
    iN ((0:Int)<=16/\16<=(([48,49,50,51,52,53,54,55,56,57,97,98,99,100,101,102]:cB).length:Int)) <|
    (aZ x1.1 v6).bind λx13=>
    (pA (([48,49,50,51,52,53,54,55,56,57,97,98,99,100,101,102]:cB).take (16:Int).toNat) (x13.toNat:Int)).bind λx14=>
    (if decide (x14<0) then
       some true
      else
       some (decide (4294967295<(i64.wrap ((i64.wrap (v5*16))+x14))))).bind λy22=>
    if y22 then
     some (.inr (0,false))
    else
     DA x1 c8 (i64.wrap ((i64.wrap (v5*16))+x14)) (i64.wrap (v6+1))
   else
    some (.inl v5)
@[go_sem] def Dz (a0:cB):Nat->Int->Int->Option (Int ⊕ (Int × Bool))
 | 0,_,_=>none
 | c32+1,v29,v30=>
   if decide (v30<(a0.length:Int)) then
    iN ((0:Int)<=10/\10<=(([48,49,50,51,52,53,54,55,56,57,97,98,99,100,101,102]:cB).length:Int)) <|
    (aZ a0 v30).bind λx37=>
    (pA (([48,49,50,51,52,53,54,55,56,57,97,98,99,100,101,102]:cB).take (10:Int).toNat) (x37.toNat:Int)).bind λx38=>
    (if decide (x38<0) then
       some true
      else
       some (decide (4294967295<(i64.wrap ((i64.wrap (v29*10))+x38))))).bind λy46=>
    if y46 then
     some (.inr (0,false))
    else
     Dz a0 c32 (i64.wrap ((i64.wrap (v29*10))+x38)) (i64.wrap (v30+1))
   else
    some (.inl v29)
def DK (n:Nat) (a0:cB):Option (Int × Bool):=
 (sK a0 ([48,120]:cB)).bind λx1=>
 if x1.2=true then
  (DA x1 n 0 0).bind λy7=>
  y7.elim (λy7a=>
   some ((u32.wrap y7a),(decide (x1.1 ≠ ([]:cB))))) (λy7a=>
   some y7a)
 else
  (Dz a0 n 0 0).bind λy31=>
  y31.elim (λy31a=>
   some ((u32.wrap y31a),(decide (a0 ≠ ([]:cB))))) (λy31a=>
   some y31a)
@[go_sem] def FF (a0:cB):Nat->Int->Option (Unit ⊕ cB)
 | 0,_=>none
 | c4+1,v2=>
   if decide (v2<26) then
    (aZ gL v2).bind λx9=>
    (pB a0 x9).bind λx17=>
    if x17 then
     some (.inr x9)
    else
     FF a0 c4 (i64.wrap (v2+1))
   else
    some (.inl ())
def Hk (n:Nat) (a0:cB):Option cB:=
 (FF a0 n 0).bind λy3=>
 y3.elim (λy3a=>
  some ([]:cB)) (λy3a=>
  some y3a)
def Hl (n:Nat) (a0:cB) (a1:Int):Option (eA × Int):=
 iN (0<=a1/\a1<=(a0.length:Int)) <|
 (Hj n (a0.drop a1.toNat)).bind λx2=>
 (aZ a0 a1).bind λx7=>
 (Ad (x7.toNat:Int)).bind λx8=>
 if x8 then
  if decide (32<(x2.length:Int)) then
   some ((eA.mk 0 0 [] 0),102)
  else
   some ((eA.mk 1 a1 x2 0),0)
 else
  (BT (x7.toNat:Int)).bind λx16=>
  if x16 then
   (DK n x2).bind λx19=>
   if !x19.2 then
    some ((eA.mk 0 0 [] 0),101)
   else
    some ((eA.mk 2 a1 x2 x19.1),0)
  else
   iN (0<=a1/\a1<=(a0.length:Int)) <|
   (Hk n (a0.drop a1.toNat)).bind λx22=>
   if decide (x22=([]:cB)) then
    some ((eA.mk 0 0 [] 0),100)
   else
    some ((eA.mk 3 a1 x22 0),0)
@[go_sem] def Cf (n:Nat) (a0:cB):Nat->(List eA)->Int->Option ((List eA) ⊕ ((List eA) × Int × Int))
 | 0,_,_=>none
 | c8+1,v5,v6=>
   if decide (v6<(a0.length:Int)) then
    (Hl n a0 v6).bind λx13=>
    if x13.2 != 0 then
     some (.inr ([],x13.2,v6))
    else
     iN (v5.length+[x13.1].length<=1073741824) <|
     (Ew n a0 (i64.wrap (v6+(x13.1.dM.length:Int)))).bind λx20=>
     Cf n a0 c8 (v5++[x13.1]) x20
   else
    some (.inl v5)
def BS (n:Nat) (a0:cB):Option ((List eA) × Int × Int):=
 if decide (65536<(a0.length:Int)) then
  some ([],161,0)
 else
  (Ew n a0 0).bind λx2=>
  (Cf n a0 n [] x2).bind λy7=>
  y7.elim (λy7a=>
   iN (y7a.length+[(eA.mk 4 (a0.length:Int) [] 0)].length<=1073741824) <|
   some ((y7a++[(eA.mk 4 (a0.length:Int) [] 0)]),0,0)) (λy7a=>
   some y7a)
def eD (a0:aD):Option eA:=
 (aZ a0.l_ a0.fW).bind λx2=>
 some x2
def iY (a0:aD) (a1:Int):Option aD:=
 if a0.e_ == 0 then
  (eD a0).bind λx2=>
  some ({ a0 with e_:=a1,FL:=x2.gI }:aD)
 else
  some a0
def fP (a0:aD) (a1:Int):Option (aC × aD):=
 if decide (16384<(i64.wrap (a0.BR+1))) then
  (iY ({ a0 with BR:=(i64.wrap (a0.BR+1)) }:aD) 136).bind λx3=>
  (eD x3).bind λx5=>
  some ((aC.mk a1 x5.gI [] 0 []),x3)
 else
  (eD ({ a0 with BR:=(i64.wrap (a0.BR+1)) }:aD)).bind λx7=>
  some ((aC.mk a1 x7.gI [] 0 []),({ a0 with BR:=(i64.wrap (a0.BR+1)) }:aD))
@[go_sem] def lT (a0:(List cB)) (a1:cB):Nat->Int->Option (Unit ⊕ Int)
 | 0,_=>none
 | c4+1,v2=>
   if decide (v2<(a0.length:Int)) then
    (aZ a0 v2).bind λx9=>
    if decide (a1=x9) then
     some (.inr v2)
    else
     lT a0 a1 c4 (i64.wrap (v2+1))
   else
    some (.inl ())
def kQ (n:Nat) (a0:(List cB)) (a1:cB):Option Int:=
 (lT a0 a1 n 0).bind λy3=>
 y3.elim (λy3a=>
  some (-1:Int)) (λy3a=>
  some y3a)
def jQ (n:Nat) (a0:(List cB)) (a1:cB):Option Bool:=
 (kQ n a0 a1).bind λx1=>
 some (decide (0<=x1))
def Ac (n:Nat) (a0:cB):Option Bool:=
 (jQ n cL a0).bind λx1=>
 some x1
def kC (n:Nat) (a0:aD) (a1:cB):Option Bool:=
 (eD a0).bind λx1=>
 (if a0.e_ == 0 then
    if decide (x1.dM=a1) then
     if x1.bJ == 3 then
      some true
     else
      if x1.bJ == 1 then
       (Ac n a1).bind λx9=>
       some x9
      else
       some false
    else
     some false
   else
    some false).bind λy4=>
 some y4
def bU (n:Nat) (a0:aD) (a1:cB):Option (Bool × aD):=
 (kC n a0 a1).bind λx1=>
 if !x1 then
  some (false,a0)
 else
  some (true,({ a0 with fW:=(i64.wrap (a0.fW+1)) }:aD))
def bQ (n:Nat) (a0:aD) (a1:cB):Option aD:=
 (bU n a0 a1).bind λx1=>
 if !x1.1 then
  (iY x1.2 110).bind λx4=>
  some x4
 else
  some x1.2
def eW (n:Nat) (a0:aD):Option (cB × aD):=
 (eD a0).bind λx1=>
 (if a0.e_ != 0 then
    some true
   else
    if x1.bJ != 1 then
     some true
    else
     (Ac n x1.dM).bind λx7=>
     some x7).bind λy4=>
 if y4 then
  (iY a0 110).bind λx13=>
  some (([]:cB),x13)
 else
  some (x1.dM,({ a0 with fW:=(i64.wrap (a0.fW+1)) }:aD))
def lD (a0:aD):Option (Int × aD):=
 (eD a0).bind λx1=>
 (if a0.e_ != 0 then
    some true
   else
    some (x1.bJ != 2)).bind λy4=>
 if y4 then
  (iY a0 110).bind λx10=>
  some (0,x10)
 else
  some (x1.pX,({ a0 with fW:=(i64.wrap (a0.fW+1)) }:aD))
def nA (n:Nat) (a0:aD):Option (Int × aD):=
 (bQ n a0 ([91]:cB)).bind λx1=>
 (lD x1).bind λx3=>
 (bQ n x3.2 ([93]:cB)).bind λx5=>
 some (x3.1,x5)
def lN:List cB:=[([112,117,98]:cB),([117,51,50]:cB),([117,54,52]:cB)]
@[go_sem] def sL (n:Nat):Nat->Int->aD->aC->aC->Option ((aD × aC × aC) ⊕ (aC × aD))
 | 0,_,_,_,_=>none
 | c15+1,v10,v11,v12,v13=>
   if decide (v10<3) then
    (aZ lN v10).bind λx20=>
    (bU n v11 x20).bind λx29=>
    if x29.1=true then
     some (.inr (({ v13 with pX:=(u32.wrap (i64.wrap (1+v10))) }:aC),x29.2))
    else
     sL n c15 (i64.wrap (v10+1)) x29.2 v12 v13
   else
    some (.inl (v11,v12,v13))
def oN (n:Nat) (a0:aD):Option (aC × aD):=
 (fP a0 3).bind λx2=>
 (eW n x2.2).bind λx5=>
 (bQ n x5.2 ([58]:cB)).bind λx7=>
 (sL n n 0 x7 (aC.mk 0 0 [] 0 []) ({ x2.1 with dM:=x5.1 }:aC)).bind λy14=>
 y14.elim (λy14a=>
  (fP y14a.1 14).bind λx37=>
  (nA n x37.2).bind λx40=>
  some (({ y14a.2.2 with pX:=4,aN:=[({ x37.1 with pX:=x40.1 }:aC)] }:aC),x40.2)) (λy14a=>
  some y14a)
@[go_sem] def nI (n:Nat):Nat->(List aC)->aD->Option ((List aC) × aD)
 | 0,_,_=>none
 | c11+1,v8,v9=>
   if v9.e_ == 0 then
    (oN n v9).bind λx16=>
    iN (v8.length+[x16.1].length<=1073741824) <|
    (bU n x16.2 ([44]:cB)).bind λx21=>
    if !x21.1 then
     some ((v8++[x16.1]),x21.2)
    else
     nI n c11 (v8++[x16.1]) x21.2
   else
    some (v8,v9)
def gV (n:Nat) (a0:aD):Option ((List aC) × aD):=
 (bQ n a0 ([40]:cB)).bind λx1=>
 (bU n x1 ([41]:cB)).bind λx3=>
 if x3.1=true then
  some ([],x3.2)
 else
  ((nI n n [] x3.2).bind λy10=>
    some (y10.1,y10.2)).bind λy6=>
  (bQ n y6.2 ([41]:cB)).bind λx27=>
  some (y6.1,x27)
def nC (a0:aD) (a1:Int):Option aD:=
 if decide (64<a1) then
  (iY a0 111).bind λx2=>
  some x2
 else
  some a0
@[go_sem] def mN (n:Nat) (x1:(List cB)) (a0:aD):Nat->Int->Option (Unit ⊕ cB)
 | 0,_=>none
 | c15+1,v13=>
   if decide (v13<3) then
    (aZ x1 v13).bind λx20=>
    (if decide (x20 ≠ ([]:cB)) then
       (kC n a0 x20).bind λx31=>
       some x31
      else
       some false).bind λy29=>
    if y29 then
     some (.inr x20)
    else
     mN n x1 a0 c15 (i64.wrap (v13+1))
   else
    some (.inl ())
def nB (n:Nat) (a0:aD) (a1:Int):Option cB:=
 (aZ dH a1).bind λx1=>
 (mN n x1 a0 n 0).bind λy14=>
 y14.elim (λy14a=>
  some ([]:cB)) (λy14a=>
  some y14a)
@[go_sem] def gU (fT:aD->Int->Option (aC × aD)) (n:Nat) (a1:Int):Nat->(List aC)->aD->Option ((List aC) × aD)
 | 0,_,_=>none
 | c11+1,v8,v9=>
   if v9.e_ == 0 then
    (fT v9 a1).bind λx16=>
    iN (v8.length+[x16.1].length<=1073741824) <|
    (bU n x16.2 ([44]:cB)).bind λx21=>
    if !x21.1 then
     some ((v8++[x16.1]),x21.2)
    else
     gU fT n a1 c11 (v8++[x16.1]) x21.2
   else
    some (v8,v9)
def jI (fT:aD->Int->Option (aC × aD)) (n:Nat) (a0:aD) (a1:Int):Option ((List aC) × aD):=
 (bQ n a0 ([40]:cB)).bind λx1=>
 (bU n x1 ([41]:cB)).bind λx3=>
 if x3.1=true then
  some ([],x3.2)
 else
  ((gU fT n a1 n [] x3.2).bind λy10=>
    some (y10.1,y10.2)).bind λy6=>
  (bQ n y6.2 ([41]:cB)).bind λx27=>
  some (y6.1,x27)
def qN (dD:aD->Int->Int->Option (aC × aD)) (n:Nat) (a0:aD) (a1:Int):Option (aC × aD):=
 (dD a0 0 a1).bind λx2=>
 some (x2.1,x2.2)
@[go_sem] def sN (dD:aD->Int->Int->Option (aC × aD)) (n:Nat) (a1:Int) (a2:Int):Nat->cB->aD->aC->Option (aD × aC)
 | 0,_,_,_=>none
 | c15+1,v11,v12,v13=>
   if decide (v11 ≠ ([]:cB)) then
    (fP v12 19).bind λx20=>
    (bQ n x20.2 v11).bind λx23=>
    (dD x23 (i64.wrap (a1+1)) a2).bind λx25=>
    if a1 == 3 then
     some (x25.2,({ x20.1 with dM:=v11,aN:=[v13,x25.1] }:aC))
    else
     (nB n x25.2 a1).bind λx28=>
     sN dD n a1 a2 c15 x28 x25.2 ({ x20.1 with dM:=v11,aN:=[v13,x25.1] }:aC)
   else
    some (v12,v13)
def pI (dC:aD->Int->Option (aC × aD)) (dD:aD->Int->Int->Option (aC × aD)) (n:Nat) (a0:aD) (a1:Int) (a2:Int):Option (aC × aD):=
 if a1 == 7 then
  (dC a0 a2).bind λx3=>
  some (x3.1,x3.2)
 else
  (dD a0 (i64.wrap (a1+1)) a2).bind λx5=>
  (nB n x5.2 a1).bind λx8=>
  (sN dD n a1 a2 n x8 x5.2 x5.1).bind λy14=>
  some (y14.2,y14.1)
def jB:List cB:=[([126]:cB),([45]:cB)]
@[go_sem] def qF (dC:aD->Int->Option (aC × aD)) (n:Nat) (a1:Int):Nat->Int->aD->aC->aC->Option ((aD × aC × aC) ⊕ (aC × aD))
 | 0,_,_,_,_=>none
 | c23+1,v18,v19,v20,v21=>
   if decide (v18<2) then
    (aZ jB v18).bind λx28=>
    (bU n v19 x28).bind λx37=>
    if x37.1=true then
     (dC x37.2 (i64.wrap (a1+1))).bind λx40=>
     some (.inr (({ v20 with bJ:=18,dM:=x28,aN:=[x40.1] }:aC),x40.2))
    else
     qF dC n a1 c23 (i64.wrap (v18+1)) x37.2 v20 v21
   else
    some (.inl (v19,v20,v21))
def nT (eO:aD->Int->Option (aC × aD)) (dC:aD->Int->Option (aC × aD)) (iR:aD->Int->Option ((List aC) × aD)) (n:Nat) (a0:aD) (a1:Int):Option (aC × aD):=
 (nC a0 a1).bind λx4=>
 (bU n x4 ([40]:cB)).bind λx6=>
 if x6.1=true then
  (eO x6.2 (i64.wrap (a1+1))).bind λx9=>
  (bQ n x9.2 ([41]:cB)).bind λx12=>
  some (x9.1,x12)
 else
  (fP x6.2 15).bind λx14=>
  (qF dC n a1 n 0 x14.2 x14.1 (aC.mk 0 0 [] 0 [])).bind λy22=>
  y22.elim (λy22a=>
   (if y22a.1.e_ == 0 then
      (eD y22a.1).bind λx72=>
      some (x72.bJ == 2)
     else
      some false).bind λy70=>
   if y70 then
    (lD y22a.1).bind λx78=>
    some (({ y22a.2.1 with bJ:=14,pX:=x78.1 }:aC),x78.2)
   else
    (eW n y22a.1).bind λx80=>
    ((kC n x80.2 ([40]:cB)).bind λx83=>
      if x83 then
       (iR x80.2 a1).bind λx86=>
       some (x86.2,({ y22a.2.1 with bJ:=17,dM:=x80.1,aN:=x86.1 }:aC))
      else
       (bU n x80.2 ([91]:cB)).bind λx88=>
       if x88.1=true then
        (eO x88.2 (i64.wrap (a1+1))).bind λx91=>
        (bQ n x91.2 ([93]:cB)).bind λx93=>
        some (x93,({ y22a.2.1 with bJ:=16,dM:=x80.1,aN:=[x91.1] }:aC))
       else
        some (x88.2,({ y22a.2.1 with dM:=x80.1 }:aC))).bind λy82=>
    some (y82.2,y82.1)) (λy22a=>
   some y22a)
def lX (eO:aD->Int->Option (aC × aD)) (n:Nat) (a0:aD) (a1:Int):Option (aC × aD):=
 (eO a0 (i64.wrap (a1+1))).bind λx2=>
 some (x2.1,x2.2)
def bF:Nat->(aD->Int->Option ((List aC) × aD)) × (aD->Int->Option (aC × aD)) × (aD->Int->Int->Option (aC × aD)) × (aD->Int->Option (aC × aD)) × (aD->Int->Option (aC × aD))
 | 0=>(λ_ _=>none,λ_ _=>none,λ_ _ _=>none,λ_ _=>none,λ_ _=>none)
 | n+1=>(jI (bF n).2.2.2.2 n,qN (bF n).2.2.1 n,pI (bF n).2.2.2.1 (bF n).2.2.1 n,nT (bF n).2.1 (bF n).2.2.2.1 (bF n).1 n,lX (bF n).2.1 n)
def BP (n:Nat):aD->Int->Option ((List aC) × aD):=(bF n).1
def fQ (n:Nat):aD->Int->Option (aC × aD):=(bF n).2.1
def Jm (n:Nat):aD->Int->Int->Option (aC × aD):=(bF n).2.2.1
def HU (n:Nat):aD->Int->Option (aC × aD):=(bF n).2.2.2.1
def FT (n:Nat):aD->Int->Option (aC × aD):=(bF n).2.2.2.2
def lY (n:Nat) (a0:aD) (a1:aC) (a2:Int):Option (aC × aD):=
 (eW n a0).bind λx3=>
 (bQ n x3.2 ([61]:cB)).bind λx5=>
 (fQ n x5 a2).bind λx7=>
 (bQ n x7.2 ([59]:cB)).bind λx9=>
 some (({ a1 with dM:=x3.1,aN:=[x7.1] }:aC),x9)
def pG (n:Nat) (a0:aD) (a1:Int):Option (aC × aD):=
 (fQ n a0 (i64.wrap (a1+2))).bind λx2=>
 some (x2.1,x2.2)
@[go_sem] def iF (n:Nat) (a1:Int):Nat->(List aC)->aD->Option ((List aC) × aD)
 | 0,_,_=>none
 | c11+1,v8,v9=>
   if v9.e_ == 0 then
    (pG n v9 a1).bind λx16=>
    iN (v8.length+[x16.1].length<=1073741824) <|
    (bU n x16.2 ([44]:cB)).bind λx21=>
    if !x21.1 then
     some ((v8++[x16.1]),x21.2)
    else
     iF n a1 c11 (v8++[x16.1]) x21.2
   else
    some (v8,v9)
def jC (n:Nat) (a0:aD) (a1:Int):Option ((List aC) × aD):=
 (bQ n a0 ([40]:cB)).bind λx1=>
 (bU n x1 ([41]:cB)).bind λx3=>
 if x3.1=true then
  some ([],x3.2)
 else
  ((iF n a1 n [] x3.2).bind λy10=>
    some (y10.1,y10.2)).bind λy6=>
  (bQ n y6.2 ([41]:cB)).bind λx27=>
  some (y6.1,x27)
def oM (n:Nat) (a0:aD) (a1:aC) (a2:Int):Option (aC × aD):=
 (eW n a0).bind λx5=>
 ((kC n x5.2 ([40]:cB)).bind λx8=>
   if x8 then
    (jC n x5.2 a2).bind λx11=>
    some (x11.2,({ a1 with bJ:=10,dM:=x5.1,aN:=x11.1 }:aC))
   else
    (bU n x5.2 ([91]:cB)).bind λx13=>
    if x13.1=true then
     (fQ n x13.2 (i64.wrap (a2+2))).bind λx16=>
     (bQ n x16.2 ([93]:cB)).bind λx18=>
     (bQ n x18 ([61]:cB)).bind λx20=>
     (fQ n x20 (i64.wrap (a2+1))).bind λx22=>
     iN ([x16.1].length+[x22.1].length<=1073741824) <|
     some (x22.2,({ a1 with bJ:=9,dM:=x5.1,aN:=([x16.1]++[x22.1]) }:aC))
    else
     (bQ n x13.2 ([61]:cB)).bind λx25=>
     (fQ n x25 (i64.wrap (a2+1))).bind λx27=>
     some (x27.2,({ a1 with dM:=x5.1,aN:=[x27.1] }:aC))).bind λy7=>
 (bQ n y7.1 ([59]:cB)).bind λx32=>
 some (y7.2,x32)
@[go_sem] def oP (fS:aD->Int->Option (aC × aD)) (n:Nat) (a1:Int):Nat->aD->aC->Option (aD × aC)
 | 0,_,_=>none
 | c13+1,v10,v11=>
   (if v10.e_ == 0 then
      (kC n v10 ([125]:cB)).bind λx19=>
      some (!x19)
     else
      some false).bind λy17=>
   if y17 then
    (fS v10 a1).bind λx25=>
    iN (v11.aN.length+[x25.1].length<=1073741824) <|
    oP fS n a1 c13 x25.2 ({ v11 with aN:=(v11.aN++[x25.1]) }:aC)
   else
    some (v10,v11)
def pJ (fS:aD->Int->Option (aC × aD)) (n:Nat) (a0:aD) (a1:Int):Option (aC × aD):=
 (nC a0 a1).bind λx2=>
 (fP x2 4).bind λx4=>
 (bQ n x4.2 ([123]:cB)).bind λx7=>
 (oP fS n a1 n x7 x4.1).bind λy12=>
 (bQ n y12.1 ([125]:cB)).bind λx32=>
 some (y12.2,x32)
def lW (mU:aD->aC->Int->Option (aC × aD)) (oK:aD->aC->Int->Option (aC × aD)) (n:Nat) (a0:aD) (a1:Int):Option (aC × aD):=
 (fP a0 8).bind λx2=>
 ((bU n x2.2 ([108,101,116]:cB)).bind λx6=>
   if x6.1=true then
    (lY n x6.2 ({ x2.1 with bJ:=5 }:aC) (i64.wrap (a1+1))).bind λx9=>
    some (.inr (x9.1,x9.2))
   else
    (bU n x6.2 ([118,97,114]:cB)).bind λx11=>
    if x11.1=true then
     (lY n x11.2 ({ x2.1 with bJ:=6 }:aC) (i64.wrap (a1+1))).bind λx14=>
     some (.inr (x14.1,x14.2))
    else
     (bU n x11.2 ([97,114,114]:cB)).bind λx16=>
     if x16.1=true then
      (eW n x16.2).bind λx19=>
      (nA n x19.2).bind λx21=>
      some (.inl (x21.2,({ x2.1 with bJ:=7,dM:=x19.1,pX:=x21.1 }:aC)))
     else
      (bU n x16.2 ([114,101,116,117,114,110]:cB)).bind λx23=>
      if x23.1=true then
       (fQ n x23.2 (i64.wrap (a1+1))).bind λx26=>
       some (.inl (x26.2,({ x2.1 with bJ:=13,aN:=[x26.1] }:aC)))
      else
       (bU n x23.2 ([105,102]:cB)).bind λx28=>
       if x28.1=true then
        (mU x28.2 x2.1 a1).bind λx31=>
        some (.inr (x31.1,x31.2))
       else
        (bU n x28.2 ([102,111,114]:cB)).bind λx33=>
        if x33.1=true then
         (oK x33.2 x2.1 a1).bind λx36=>
         some (.inr (x36.1,x36.2))
        else
         (oM n x33.2 x2.1 a1).bind λx38=>
         some (.inr (x38.1,x38.2)):Option ((aD × aC) ⊕ (aC × aD))).bind λy5=>
 y5.elim (λy5a=>
  (bQ n y5a.1 ([59]:cB)).bind λx43=>
  some (y5a.2,x43)) (λy5a=>
  some y5a)
def oO (eE:aD->Int->Option (aC × aD)) (n:Nat) (a0:aD) (a1:aC) (a2:Int):Option (aC × aD):=
 (fQ n a0 (i64.wrap (a2+1))).bind λx3=>
 (eE x3.2 (i64.wrap (a2+1))).bind λx5=>
 iN ([x3.1].length+[x5.1].length<=1073741824) <|
 (bU n x5.2 ([101,108,115,101]:cB)).bind λx8=>
 if x8.1=true then
  (eE x8.2 (i64.wrap (a2+1))).bind λx11=>
  iN (([x3.1]++[x5.1]).length+[x11.1].length<=1073741824) <|
  some (({ a1 with bJ:=11,aN:=(([x3.1]++[x5.1])++[x11.1]) }:aC),x11.2)
 else
  some (({ a1 with bJ:=11,aN:=([x3.1]++[x5.1]) }:aC),x8.2)
def qM (eE:aD->Int->Option (aC × aD)) (n:Nat) (a0:aD) (a1:aC) (a2:Int):Option (aC × aD):=
 (eW n a0).bind λx3=>
 (bQ n x3.2 ([105,110]:cB)).bind λx5=>
 (fQ n x5 (i64.wrap (a2+1))).bind λx7=>
 (bQ n x7.2 ([46,46]:cB)).bind λx9=>
 (fQ n x9 (i64.wrap (a2+1))).bind λx11=>
 iN ([x7.1].length+[x11.1].length<=1073741824) <|
 (eE x11.2 (i64.wrap (a2+1))).bind λx14=>
 iN (([x7.1]++[x11.1]).length+[x14.1].length<=1073741824) <|
 some (({ a1 with bJ:=12,dM:=x3.1,aN:=(([x7.1]++[x11.1])++[x14.1]) }:aC),x14.2)
def dT:Nat->(aD->Int->Option (aC × aD)) × (aD->Int->Option (aC × aD)) × (aD->aC->Int->Option (aC × aD)) × (aD->aC->Int->Option (aC × aD))
 | 0=>(λ_ _=>none,λ_ _=>none,λ_ _ _=>none,λ_ _ _=>none)
 | n+1=>(pJ (dT n).2.1 n,lW (dT n).2.2.1 (dT n).2.2.2 n,oO (dT n).1 n,qM (dT n).1 n)
def eZ (n:Nat):aD->Int->Option (aC × aD):=(dT n).1
def FP (n:Nat):aD->Int->Option (aC × aD):=(dT n).2.1
def Iy (n:Nat):aD->aC->Int->Option (aC × aD):=(dT n).2.2.1
def Kr (n:Nat):aD->aC->Int->Option (aC × aD):=(dT n).2.2.2
def lO (n:Nat) (a0:aD):Option (aC × aD):=
 (fP a0 2).bind λx2=>
 (bU n x2.2 ([101,120,112,111,114,116]:cB)).bind λx5=>
 if x5.1=true then
  (bQ n x5.2 ([102,110]:cB)).bind λx8=>
  (eW n x8).bind λx10=>
  (gV n x10.2).bind λx12=>
  (bU n x12.2 ([45,62]:cB)).bind λx14=>
  if x14.1=true then
   (bU n x14.2 ([117,51,50]:cB)).bind λx17=>
   if x17.1=true then
    (eZ n x17.2 1).bind λx20=>
    iN (x12.1.length+[x20.1].length<=1073741824) <|
    some (({ x2.1 with dM:=x10.1,pX:=(orK .u32 1 2),aN:=(x12.1++[x20.1]) }:aC),x20.2)
   else
    (bQ n x17.2 ([117,54,52]:cB)).bind λx25=>
    (eZ n x25 1).bind λx27=>
    iN (x12.1.length+[x27.1].length<=1073741824) <|
    some (({ x2.1 with dM:=x10.1,pX:=(orK .u32 1 4),aN:=(x12.1++[x27.1]) }:aC),x27.2)
  else
   (eZ n x14.2 1).bind λx32=>
   iN (x12.1.length+[x32.1].length<=1073741824) <|
   some (({ x2.1 with dM:=x10.1,pX:=1,aN:=(x12.1++[x32.1]) }:aC),x32.2)
 else
  (bQ n x5.2 ([102,110]:cB)).bind λx37=>
  (eW n x37).bind λx39=>
  (gV n x39.2).bind λx41=>
  (bU n x41.2 ([45,62]:cB)).bind λx43=>
  if x43.1=true then
   (bU n x43.2 ([117,51,50]:cB)).bind λx46=>
   if x46.1=true then
    (eZ n x46.2 1).bind λx49=>
    iN (x41.1.length+[x49.1].length<=1073741824) <|
    some (({ x2.1 with dM:=x39.1,pX:=(orK .u32 x2.1.pX 2),aN:=(x41.1++[x49.1]) }:aC),x49.2)
   else
    (bQ n x46.2 ([117,54,52]:cB)).bind λx54=>
    (eZ n x54 1).bind λx56=>
    iN (x41.1.length+[x56.1].length<=1073741824) <|
    some (({ x2.1 with dM:=x39.1,pX:=(orK .u32 x2.1.pX 4),aN:=(x41.1++[x56.1]) }:aC),x56.2)
  else
   (eZ n x43.2 1).bind λx61=>
   iN (x41.1.length+[x61.1].length<=1073741824) <|
   some (({ x2.1 with dM:=x39.1,aN:=(x41.1++[x61.1]) }:aC),x61.2)
@[go_sem] def yB (n:Nat):Nat->aD->aC->Option (aD × aC)
 | 0,_,_=>none
 | c13+1,v10,v11=>
   (if v10.e_ == 0 then
      (eD v10).bind λx19=>
      some (x19.bJ != 4)
     else
      some false).bind λy17=>
   if y17 then
    (lO n v10).bind λx25=>
    iN (v11.aN.length+[x25.1].length<=1073741824) <|
    yB n c13 x25.2 ({ v11 with aN:=(v11.aN++[x25.1]) }:aC)
   else
    some (v10,v11)
def Cu (n:Nat) (a0:cB):Option (aC × Int × Int):=
 (BS n a0).bind λx2=>
 if x2.2.1 != 0 then
  some ((aC.mk 0 0 [] 0 []),x2.2.1,x2.2.2)
 else
  (fP (aD.mk x2.1 0 0 0 0) 1).bind λx6=>
  (yB n n x6.2 x6.1).bind λy12=>
  if y12.1.e_ != 0 then
   some ((aC.mk 0 0 [] 0 []),y12.1.e_,y12.1.FL)
  else
   some (y12.2,0,0)
def rZ (a0:aE) (a1:aG) (a2:Int) (a3:Int):Option aG:=
 if a1.e_ == 0 then
  some (aG.mk a2 a3)
 else
  some a1
def aS (a0:aE) (a1:aG) (a2:Bool) (a3:Int) (a4:Int):Option aG:=
 if !a2 then
  (rZ a0 a1 a3 a4).bind λx2=>
  some x2
 else
  some a1
def CV (a0:aJ) (a1:cB):Option Bool:=
 some (decide (a0.iE=a1))
@[go_sem] def cT (a0:(List aJ)) (a1:cB):Nat->Int->Option (Unit ⊕ Int)
 | 0,_=>none
 | c4+1,v2=>
   if decide (v2<(a0.length:Int)) then
    (aZ a0 v2).bind λx9=>
    (CV x9 a1).bind λx10=>
    if x10 then
     some (.inr v2)
    else
     cT a0 a1 c4 (i64.wrap (v2+1))
   else
    some (.inl ())
def fV (n:Nat) (a0:(List aJ)) (a1:cB):Option Int:=
 (cT a0 a1 n 0).bind λy3=>
 y3.elim (λy3a=>
  some (-1:Int)) (λy3a=>
  some y3a)
def qX (n:Nat) (a0:bM) (a1:cB):Option (Int × Bool):=
 (fV n a0.bC a1).bind λx3=>
 some ((max x3 0),(decide (0<=x3)))
@[go_sem] def zQ (a0:cB):Nat->Int->Option (Unit ⊕ Int)
 | 0,_=>none
 | c4+1,v2=>
   if decide (v2<5) then
    (aZ cV v2).bind λx9=>
    if decide (x9.VX=a0) then
     some (.inr x9.WD)
    else
     zQ a0 c4 (i64.wrap (v2+1))
   else
    some (.inl ())
def yF (n:Nat) (a0:cB):Option Int:=
 (zQ a0 n 0).bind λy3=>
 y3.elim (λy3a=>
  some 0) (λy3a=>
  some y3a)
def Bm (a0:Int):Option Int:=
 if (Ae .u32 a0 2) != 0 then
  some 2
 else
  if (Ae .u32 a0 4) != 0 then
   some 3
  else
   some 0
@[go_sem] def kW (n:Nat) (a2:aC):Nat->Int->aE->aG->Option (aE × aG)
 | 0,_,_,_=>none
 | c9+1,v5,v6,v7=>
   if decide (v5<(a2.aN.length:Int)) then
    (aZ a2.aN v5).bind λx14=>
    (qX n v6.p_ x14.dM).bind λx20=>
    (if !x20.2 then
       (yF n x14.dM).bind λx25=>
       (aS v6 v7 (x25 == 0) 131 x14.gI).bind λx26=>
       some x26
      else
       (aS v6 v7 false 131 x14.gI).bind λx29=>
       some x29).bind λy23=>
    (Bm x14.pX).bind λx34=>
    iN (v6.f_<0) <|
    iN (v6.p_.bC.length+1<=1073741824) <|
    kW n a2 c9 (i64.wrap (v5+1)) ({ v6 with p_:=⟨(v6.p_.bC++[(aJ.mk x14.dM ((Ae .u32 x14.pX 1) != 0) x34 0 [] [])])⟩ }:aE) y23
   else
    some (v6,v7)
def qP (n:Nat) (a0:aE) (a1:aG) (a2:aC):Option (aE × aG):=
 (aS a0 a1 (decide ((a2.aN.length:Int)<=64)) 136 a2.gI).bind λx2=>
 (kW n a2 n 0 a0 x2).bind λy8=>
 iN (0<=(a2.aN.length:Int)/\(a2.aN.length:Int)<=1073741824) <|
 some (({ y8.1 with cF:=(List.replicate a2.aN.length []) }:aE),y8.2)
@[go_sem] def jO (x1:aJ):Nat->Int->aE->Option aE
 | 0,_,_=>none
 | c31+1,v28,v29=>
   if decide (v28<x1.aT) then
    iN (v29.bI.length+1<=1073741824) <|
    jO x1 c31 (i64.wrap (v28+1)) ({ v29 with bI:=(v29.bI++[v28]) }:aE)
   else
    some v29
def nL (n:Nat) (a0:aE) (a1:aG) (a2:Int):Option (aE × aG):=
 (aZ a0.p_.bC a2).bind λx1=>
 (jO x1 n 0 ({ a0 with f_:=a2,bI:=[],fW:=a2 }:aE)).bind λy30=>
 some (y30,a1)
def Aw (a0:Int):Option Bool:=
 (if decide (1<=a0) then
    if decide (a0<=255) then
     some true
    else
     if decide (255<a0) then
      if decide (a0<=1024) then
       some ((a0.tmod 4) == 0)
      else
       some false
     else
      some false
   else
    if decide (255<a0) then
     if decide (a0<=1024) then
      some ((a0.tmod 4) == 0)
     else
      some false
    else
     some false).bind λy1=>
 some y1
@[go_sem] def lQ (a0:aE) (a2:cB):Nat->Int->Option (Unit ⊕ Int)
 | 0,_=>none
 | c5+1,v3=>
   if decide (0<=v3) then
    (aZ a0.p_.bC a0.f_).bind λx10=>
    (aZ a0.bI v3).bind λx13=>
    (aZ x10.aQ x13).bind λx14=>
    if decide (x14.iE=a2) then
     some (.inr x13)
    else
     lQ a0 a2 c5 (i64.wrap (v3 - 1))
   else
    some (.inl ())
def mI (n:Nat) (a0:aE) (a1:aG) (a2:cB):Option Int:=
 (lQ a0 a2 n (i64.wrap ((a0.bI.length:Int) - 1))).bind λy4=>
 y4.elim (λy4a=>
  some (-1:Int)) (λy4a=>
  some y4a)
def fA (n:Nat) (a0:aE) (a1:aG) (a2:aK) (a3:Int):Option (Int × aE × aG):=
 (mI n a0 a1 a2.iE).bind λx2=>
 (aS a0 a1 (decide (x2<0)) 131 a3).bind λx3=>
 (aZ a0.p_.bC a0.f_).bind λx6=>
 (aS a0 x3 (decide ((x6.aQ.length:Int)<250)) 136 a3).bind λx9=>
 if x9.e_ != 0 then
  some ((-1:Int),a0,x9)
 else
  iN (x6.aQ.length+1<=1073741824) <|
  iN (a0.bI.length+1<=1073741824) <|
  some ((x6.aQ.length:Int),({ a0 with p_:=⟨(a0.p_.bC.set a0.f_.toNat { x6 with aQ:=(x6.aQ++[a2]) })⟩,bI:=(a0.bI++[(x6.aQ.length:Int)]) }:aE),x9)
@[go_sem] def kH (n:Nat) (a2:(List aC)):Nat->Int->aE->aG->Option (aE × aG)
 | 0,_,_,_=>none
 | c6+1,v2,v3,v4=>
   if decide (v2<(a2.length:Int)) then
    ((aZ a2 v2).bind λx12=>
      (if (i64.wrap x12.pX) == 4 then
         some (decide (0<(x12.aN.length:Int)))
        else
         some false).bind λy19=>
      if y19 then
       (aZ x12.aN 0).bind λx25=>
       (Aw (i64.wrap x25.pX)).bind λx31=>
       (aS v3 v4 x31 136 x12.gI).bind λx32=>
       (fA n v3 x32 (aK.mk x12.dM (i64.wrap x12.pX) (i64.wrap x25.pX)) x12.gI).bind λx35=>
       some (x35.2.1,x35.2.2)
      else
       (fA n v3 v4 (aK.mk x12.dM (i64.wrap x12.pX) 0) x12.gI).bind λx37=>
       some (x37.2.1,x37.2.2)).bind λy11=>
    kH n a2 c6 (i64.wrap (v2+1)) y11.1 y11.2
   else
    some (v3,v4)
def tP (n:Nat) (a0:aE) (a1:aG) (a2:(List aC)):Option (aE × aG):=
 (kH n a2 n 0 a0 a1).bind λy5=>
 (aZ y5.1.p_.bC y5.1.f_).bind λx61=>
 some (({ y5.1 with p_:=⟨(y5.1.p_.bC.set y5.1.f_.toNat { x61 with aT:=(x61.aQ.length:Int) })⟩ }:aE),y5.2)
@[go_sem] def qA (a0:aJ):Nat->Int->Int->Option Int
 | 0,_,_=>none
 | c8+1,v5,v6=>
   if decide (v6<((a0.aQ.take a0.aT.toNat).length:Int)) then
    ((aZ (a0.aQ.take a0.aT.toNat) v6).bind λx14=>
      if x14.bJ == 3 then
       some (i64.wrap ((i64.wrap (v5+(i64.wrap ((v5.tmod 2)+1))))+1))
      else
       some (i64.wrap (v5+1))).bind λy13=>
    qA a0 c8 y13 (i64.wrap (v6+1))
   else
    some v5
def wC (n:Nat) (a0:aJ):Option Int:=
 iN (0<=a0.aT/\a0.aT<=(a0.aQ.length:Int)) <|
 (qA a0 n 0 0).bind λy7=>
 some y7
def mH (n:Nat) (a0:aE) (a1:aG) (a2:Int) (a3:aC):Option (aE × aG):=
 (nL n a0 a1 a2).bind λx2=>
 iN (0<=(max (i64.wrap ((a3.aN.length:Int) - 1)) 0)/\(max (i64.wrap ((a3.aN.length:Int) - 1)) 0)<=(a3.aN.length:Int)) <|
 (tP n x2.1 x2.2 (a3.aN.take (max (i64.wrap ((a3.aN.length:Int) - 1)) 0).toNat)).bind λx4=>
 if x4.2.e_ == 0 then
  ((aZ x4.1.p_.bC x4.1.f_).bind λx10=>
    if !x10.eK then
     (aS x4.1 x4.2 true 136 a3.gI).bind λx27=>
     some x27
    else
     (wC n x10).bind λx29=>
     (aS x4.1 x4.2 (decide (x29<=4)) 136 a3.gI).bind λx30=>
     some x30).bind λy9=>
  some (x4.1,y9)
 else
  some (x4.1,x4.2)
def fU (a0:aE) (a1:aG) (a2:Int):Option Int:=
 if decide (a2<0) then
  some 0
 else
  (aZ a0.p_.bC a0.f_).bind λx2=>
  (aZ x2.aQ a2).bind λx5=>
  some x5.bJ
def iL (n:Nat) (a0:aE) (a1:aG) (a2:aC):Option (Int × aG):=
 (mI n a0 a1 a2.dM).bind λx2=>
 (aS a0 a1 (decide (0<=x2)) 130 a2.gI).bind λx4=>
 some (x2,x4)
def wW (a0:Int) (a1:Int):Option Int:=
 (if a0 == a1 then
    if decide (1<=a0) then
     some (decide (a0<=3))
    else
     some false
   else
    some false).bind λy1=>
 if y1 then
  some a0
 else
  (if a0 == 1 then
     if a1 == 2 then
      some true
     else
      if a0 == 2 then
       some (a1 == 1)
      else
       some false
    else
     if a0 == 2 then
      some (a1 == 1)
     else
      some false).bind λy8=>
  if y8 then
   some 2
  else
   some 0
def cP (a0:aE) (a1:aG) (a2:aB) (a3:Int):Option (aB × aG):=
 (aS a0 a1 (a3 != 0) 132 a2.gI).bind λx3=>
 some (({ a2 with bR:=a3 }:aB),x3)
def iU (a0:aE) (a1:aG) (a2:aB) (a3:aB) (a4:aB):Option (aB × aG):=
 (aS a0 a1 (a4.bR == 1) 133 a4.gI).bind λx5=>
 if a3.bR == 3 then
  (if decide (a4.dJ=([110,117,109]:cB)) then
     (aS a0 x5 (decide (a4.N_<=63)) 132 a2.gI).bind λx10=>
     some x10
    else
     (aS a0 x5 false 132 a2.gI).bind λx12=>
     some x12).bind λy8=>
  (cP a0 y8 a2 a3.bR).bind λx17=>
  some (x17.1,x17.2)
 else
  (cP a0 x5 a2 a3.bR).bind λx19=>
  some (x19.1,x19.2)
def wU (a0:Int):Option Int:=
 if a0 == 1 then
  some 2
 else
  some a0
def tT (a0:Int):Option Bool:=
 (if a0 == 1 then
    some true
   else
    some (a0 == 2)).bind λy1=>
 some y1
def mP (a0:aE) (a1:aG) (a2:aB):Option Int:=
 (aZ a2.aN 1).bind λx2=>
 (aZ a2.aN 2).bind λx3=>
 (wW x2.bR x3.bR).bind λx4=>
 ((aZ a2.aN 0).bind λx17=>
   (tT x17.bR).bind λx18=>
   if !x18 then
    some true
   else
    some (x4 == 0)).bind λy16=>
 if y16 then
  some 0
 else
  (wU x4).bind λx30=>
  some x30
def pS (nS:aE->aG->aC->aB->Option (aB × aG)) (mV:aE->aG->aC->aB->Option (aB × aG)) (lV:aE->aG->aC->aB->Option (aB × aG)) (lH:aE->aG->aC->aB->Option (aB × aG)) (n:Nat) (a0:aE) (a1:aG) (a2:aC):Option (aB × aG):=
 if a2.bJ == 14 then
  some ((aB.mk ([110,117,109]:cB) 1 a2.pX (-1:Int) [] a2.gI),a1)
 else
  if a2.bJ == 15 then
   (iL n a0 a1 a2).bind λx6=>
   (fU a0 x6.2 x6.1).bind λx8=>
   (aS a0 x6.2 (x8 != 4) 132 a2.gI).bind λx10=>
   some ((aB.mk ([118,97,114]:cB) x8 0 x6.1 [] a2.gI),x10)
  else
   if a2.bJ == 16 then
    (nS a0 a1 a2 (aB.mk [] 0 0 (-1:Int) [] a2.gI)).bind λx13=>
    some (x13.1,x13.2)
   else
    if a2.bJ == 18 then
     (mV a0 a1 a2 (aB.mk [] 0 0 (-1:Int) [] a2.gI)).bind λx16=>
     some (x16.1,x16.2)
    else
     if a2.bJ == 19 then
      (lV a0 a1 a2 (aB.mk [] 0 0 (-1:Int) [] a2.gI)).bind λx19=>
      some (x19.1,x19.2)
     else
      (lH a0 a1 a2 (aB.mk [] 0 0 (-1:Int) [] a2.gI)).bind λx21=>
      some (x21.1,x21.2)
def pR (dS:aE->aG->aC->Option (aB × aG)) (n:Nat) (a0:aE) (a1:aG) (a2:aC) (a3:aB):Option (aB × aG):=
 (aZ a2.aN 0).bind λx4=>
 (dS a0 a1 x4).bind λx5=>
 (iL n a0 x5.2 a2).bind λx13=>
 (fU a0 x13.2 x13.1).bind λx15=>
 (aS a0 x13.2 (x15 == 4) 132 a2.gI).bind λx16=>
 (aS a0 x16 (x5.1.bR == 1) 133 x5.1.gI).bind λx19=>
 (if x19.e_ == 0 then
    some (decide (x5.1.dJ=([110,117,109]:cB)))
   else
    some false).bind λy21=>
 if y21 then
  (aZ a0.p_.bC a0.f_).bind λx27=>
  (aZ x27.aQ x13.1).bind λx30=>
  (aS a0 x19 (decide ((i64.wrap x5.1.N_)<x30.jR)) 137 x5.1.gI).bind λx31=>
  some (({ a3 with dJ:=([105,110,100,101,120]:cB),bR:=2,fB:=x13.1,aN:=[x5.1] }:aB),x31)
 else
  some (({ a3 with dJ:=([105,110,100,101,120]:cB),bR:=2,fB:=x13.1,aN:=[x5.1] }:aB),x19)
def oR (cY:aE->aG->(List aC)->Option ((List aB) × aG)) (n:Nat) (a0:aE) (a1:aG) (a2:aC) (a3:aB):Option (aB × aG):=
 (cY a0 a1 a2.aN).bind λx4=>
 if decide (a2.dM=([45]:cB)) then
  (aZ x4.1 0).bind λx7=>
  some (({ a3 with dJ:=([110,101,103]:cB),bR:=x7.bR,aN:=x4.1 }:aB),x4.2)
 else
  (aZ x4.1 0).bind λx13=>
  some (({ a3 with dJ:=([110,111,116]:cB),bR:=x13.bR,aN:=x4.1 }:aB),x4.2)
def nX (cY:aE->aG->(List aC)->Option ((List aB) × aG)) (n:Nat) (a0:aE) (a1:aG) (a2:aC) (a3:aB):Option (aB × aG):=
 (cY a0 a1 a2.aN).bind λx4=>
 (aZ x4.1 0).bind λx6=>
 (aZ x4.1 1).bind λx9=>
 (wW x6.bR x9.bR).bind λx20=>
 if decide (a2.dM=([47]:cB)) then
  (aS a0 x4.2 (x6.bR == 1) 133 x6.gI).bind λx23=>
  (aS a0 x23 (x9.bR == 1) 133 x9.gI).bind λx25=>
  (cP a0 x25 ({ a3 with dJ:=a2.dM,aN:=x4.1 }:aB) 1).bind λx27=>
  some (x27.1,x27.2)
 else
  if decide (a2.dM=([37]:cB)) then
   (aS a0 x4.2 (x6.bR == 1) 133 x6.gI).bind λx30=>
   (aS a0 x30 (x9.bR == 1) 133 x9.gI).bind λx32=>
   (cP a0 x32 ({ a3 with dJ:=a2.dM,aN:=x4.1 }:aB) 1).bind λx34=>
   some (x34.1,x34.2)
  else
   if decide (a2.dM=([60,60]:cB)) then
    (iU a0 x4.2 ({ a3 with dJ:=a2.dM,aN:=x4.1 }:aB) x6 x9).bind λx37=>
    some (x37.1,x37.2)
   else
    if decide (a2.dM=([62,62]:cB)) then
     (iU a0 x4.2 ({ a3 with dJ:=a2.dM,aN:=x4.1 }:aB) x6 x9).bind λx40=>
     some (x40.1,x40.2)
    else
     if decide (a2.dM=([60,60,60]:cB)) then
      (iU a0 x4.2 ({ a3 with dJ:=a2.dM,aN:=x4.1 }:aB) x6 x9).bind λx43=>
      some (x43.1,x43.2)
     else
      if decide (a2.dM=([42]:cB)) then
       (aS a0 x4.2 (x20 != 3) 132 a2.gI).bind λx46=>
       (cP a0 x46 ({ a3 with dJ:=a2.dM,aN:=x4.1 }:aB) x20).bind λx48=>
       some (x48.1,x48.2)
      else
       if decide (a2.dM=([61,61]:cB)) then
        if x20 == 3 then
         (cP a0 x4.2 ({ a3 with dJ:=a2.dM,aN:=x4.1 }:aB) 2).bind λx52=>
         some (x52.1,x52.2)
        else
         (cP a0 x4.2 ({ a3 with dJ:=a2.dM,aN:=x4.1 }:aB) x20).bind λx54=>
         some (x54.1,x54.2)
       else
        if decide (a2.dM=([60]:cB)) then
         if x20 == 3 then
          (cP a0 x4.2 ({ a3 with dJ:=a2.dM,aN:=x4.1 }:aB) 2).bind λx58=>
          some (x58.1,x58.2)
         else
          (cP a0 x4.2 ({ a3 with dJ:=a2.dM,aN:=x4.1 }:aB) x20).bind λx60=>
          some (x60.1,x60.2)
        else
         (cP a0 x4.2 ({ a3 with dJ:=a2.dM,aN:=x4.1 }:aB) x20).bind λx62=>
         some (x62.1,x62.2)
def mW (cY:aE->aG->(List aC)->Option ((List aB) × aG)) (n:Nat) (a0:aE) (a1:aG) (a2:aC) (a3:aB):Option (aB × aG):=
 (yF n a2.dM).bind λx4=>
 (aS a0 a1 (decide (0<x4)) 130 a2.gI).bind λx6=>
 (aS a0 x6 ((a2.aN.length:Int) == x4) 136 a2.gI).bind λx8=>
 (cY a0 x8 a2.aN).bind λx10=>
 if x10.2.e_ != 0 then
  some (({ a3 with dJ:=a2.dM,aN:=x10.1 }:aB),x10.2)
 else
  (aZ x10.1 0).bind λx13=>
  if decide (a2.dM=([115,101,108,101,99,116]:cB)) then
   (mP a0 x10.2 ({ a3 with dJ:=a2.dM,aN:=x10.1 }:aB)).bind λx20=>
   (cP a0 x10.2 ({ a3 with dJ:=a2.dM,aN:=x10.1 }:aB) x20).bind λx21=>
   some (x21.1,x21.2)
  else
   if decide (a2.dM=([108,111,110,103]:cB)) then
    (tT x13.bR).bind λx25=>
    (aS a0 x10.2 x25 132 a2.gI).bind λx26=>
    (cP a0 x26 ({ a3 with dJ:=a2.dM,aN:=x10.1 }:aB) 3).bind λx29=>
    some (x29.1,x29.2)
   else
    if decide (a2.dM=([119,105,100,101]:cB)) then
     ((tT x13.bR).bind λx33=>
       if x33 then
        (aZ x10.1 1).bind λx36=>
        (tT x36.bR).bind λx37=>
        (aS a0 x10.2 x37 132 a2.gI).bind λx38=>
        some x38
       else
        (aS a0 x10.2 false 132 a2.gI).bind λx46=>
        some x46).bind λy32=>
     (cP a0 y32 ({ a3 with dJ:=a2.dM,aN:=x10.1 }:aB) 3).bind λx51=>
     some (x51.1,x51.2)
    else
     (aS a0 x10.2 (x13.bR == 3) 132 a2.gI).bind λx53=>
     (cP a0 x53 ({ a3 with dJ:=a2.dM,aN:=x10.1 }:aB) 2).bind λx55=>
     some (x55.1,x55.2)
@[go_sem] def tR (dS:aE->aG->aC->Option (aB × aG)) (a2:(List aC)) (a0:aE):Nat->(List aB)->Int->aG->Option ((List aB) × aG)
 | 0,_,_,_=>none
 | c6+1,v2,v3,v4=>
   if decide (v3<(a2.length:Int)) then
    (aZ a2 v3).bind λx11=>
    (dS a0 v4 x11).bind λx17=>
    iN (v2.length+[x17.1].length<=1073741824) <|
    tR dS a2 a0 c6 (v2++[x17.1]) (i64.wrap (v3+1)) x17.2
   else
    some (v2,v4)
def qS (dS:aE->aG->aC->Option (aB × aG)) (n:Nat) (a0:aE) (a1:aG) (a2:(List aC)):Option ((List aB) × aG):=
 (tR dS a2 a0 n [] 0 a1).bind λy5=>
 some (y5.1,y5.2)
def bZ:Nat->(aE->aG->aC->Option (aB × aG)) × (aE->aG->aC->aB->Option (aB × aG)) × (aE->aG->aC->aB->Option (aB × aG)) × (aE->aG->aC->aB->Option (aB × aG)) × (aE->aG->aC->aB->Option (aB × aG)) × (aE->aG->(List aC)->Option ((List aB) × aG))
 | 0=>(λ_ _ _=>none,λ_ _ _ _=>none,λ_ _ _ _=>none,λ_ _ _ _=>none,λ_ _ _ _=>none,λ_ _ _=>none)
 | n+1=>(pS (bZ n).2.1 (bZ n).2.2.1 (bZ n).2.2.2.1 (bZ n).2.2.2.2.1 n,pR (bZ n).1 n,oR (bZ n).2.2.2.2.2 n,nX (bZ n).2.2.2.2.2 n,mW (bZ n).2.2.2.2.2 n,qS (bZ n).1 n)
def iM (n:Nat):aE->aG->aC->Option (aB × aG):=(bZ n).1
def Ju (n:Nat):aE->aG->aC->aB->Option (aB × aG):=(bZ n).2.1
def II (n:Nat):aE->aG->aC->aB->Option (aB × aG):=(bZ n).2.2.1
def Ik (n:Nat):aE->aG->aC->aB->Option (aB × aG):=(bZ n).2.2.2.1
def He (n:Nat):aE->aG->aC->aB->Option (aB × aG):=(bZ n).2.2.2.2.1
def Ky (n:Nat):aE->aG->(List aC)->Option ((List aB) × aG):=(bZ n).2.2.2.2.2
def fK (n:Nat) (a0:aE) (a1:aG) (a2:aC):Option (aB × aG):=
 (iM n a0 a1 a2).bind λx3=>
 (aS a0 x3.2 (x3.1.bR == 1) 133 a2.gI).bind λx6=>
 some (x3.1,x6)
def nW (n:Nat) (a0:aE) (a1:aG) (a2:aC):Option (Int × aG):=
 (qX n a0.p_ a2.dM).bind λx2=>
 (aS a0 a1 x2.2 130 a2.gI).bind λx5=>
 some (x2.1,x5)
def pP (a0:aE) (a1:aG) (a2:Int):Option (List aK):=
 (aZ a0.p_.bC a2).bind λx1=>
 iN (0<=x1.aT/\x1.aT<=(x1.aQ.length:Int)) <|
 some (x1.aQ.take (x1.aT.toNat))
def wX (a0:Int) (a1:Int):Option Bool:=
 (if a0 == a1 then
    some true
   else
    if a0 == 1 then
     some (a1 == 2)
    else
     some false).bind λy1=>
 some y1
def nM (n:Nat) (a0:aE) (a1:aG) (a2:aC) (a3:Int):Option (aB × aG):=
 (aS a0 a1 (a2.bJ == 15) 132 a2.gI).bind λx3=>
 (iL n a0 x3 a2).bind λx5=>
 ((fU a0 x5.2 x5.1).bind λx8=>
   if x8 == 4 then
    (aZ a0.p_.bC a0.f_).bind λx11=>
    (aZ x11.aQ (max x5.1 0)).bind λx14=>
    (aS a0 x5.2 (x14.jR == a3) 132 a2.gI).bind λx15=>
    some x15
   else
    (aS a0 x5.2 false 132 a2.gI).bind λx40=>
    some x40).bind λy7=>
 some ((aB.mk ([118,97,114]:cB) 4 0 x5.1 [] a2.gI),y7)
def nY (n:Nat) (a0:aE) (a1:aG) (a2:aC) (a3:aK):Option (aB × aG):=
 if a3.bJ == 4 then
  (nM n a0 a1 a2 a3.jR).bind λx5=>
  some (x5.1,x5.2)
 else
  if a3.bJ == 1 then
   (fK n a0 a1 a2).bind λx8=>
   some (x8.1,x8.2)
  else
   (iM n a0 a1 a2).bind λx10=>
   (wX x10.1.bR a3.bJ).bind λx13=>
   (aS a0 x10.2 x13 132 a2.gI).bind λx14=>
   some (x10.1,x14)
@[go_sem] def lR (n:Nat) (a2:aC) (x20:(List aK)) (a0:aE) (x7:(List Int)) (x4:(Int × aG)):Nat->Int->aG->aA->Option (aG × aA)
 | 0,_,_,_=>none
 | c29+1,v25,v26,v27=>
   if decide (v25<(a2.aN.length:Int)) then
    (aZ a2.aN v25).bind λx34=>
    if v26.e_ != 0 then
     some (v26,v27)
    else
     (aZ x20 v25).bind λx41=>
     (nY n ({ a0 with cF:=(a0.cF.set a0.fW.toNat (x7++[x4.1])) }:aE) v26 x34 x41).bind λx42=>
     iN (v27.aN.length+[x42.1].length<=1073741824) <|
     lR n a2 x20 a0 x7 x4 c29 (i64.wrap (v25+1)) x42.2 ({ v27 with aN:=(v27.aN++[x42.1]) }:aA)
   else
    some (v26,v27)
def kF (n:Nat) (a0:aE) (a1:aG) (a2:aC) (a3:aA) (a4:Int):Option (aA × aE × aG):=
 (nW n a0 a1 a2).bind λx4=>
 if x4.2.e_ != 0 then
  some (({ a3 with dJ:=([99,97,108,108]:cB),fB:=a4,iO:=x4.1,aN:=[] }:aA),a0,x4.2)
 else
  (aZ a0.cF a0.fW).bind λx7=>
  iN (x7.length+1<=1073741824) <|
  (pP ({ a0 with cF:=(a0.cF.set a0.fW.toNat (x7++[x4.1])) }:aE) x4.2 x4.1).bind λx20=>
  (aS ({ a0 with cF:=(a0.cF.set a0.fW.toNat (x7++[x4.1])) }:aE) x4.2 ((a2.aN.length:Int) == (x20.length:Int)) 136 a2.gI).bind λx22=>
  (lR n a2 x20 a0 x7 x4 n 0 x22 ({ a3 with dJ:=([99,97,108,108]:cB),fB:=a4,iO:=x4.1,aN:=[] }:aA)).bind λy28=>
  some (y28.2,({ a0 with cF:=(a0.cF.set a0.fW.toNat (x7++[x4.1])) }:aE),y28.1)
def kL (n:Nat) (a0:aE) (a1:aG) (a2:aC):Option Bool:=
 (if a2.bJ == 17 then
    (yF n a2.dM).bind λx4=>
    some (x4 == 0)
   else
    some false).bind λy2=>
 some y2
def qR (n:Nat) (a0:aE) (a1:aG) (a2:aC) (a3:aA):Option (aA × aE × aG):=
 (aZ a2.aN 0).bind λx4=>
 (kL n a0 a1 x4).bind λx5=>
 if x5 then
  (kF n a0 a1 x4 ({ a3 with aN:=[] }:aA) (-1:Int)).bind λx13=>
  if x13.2.2.e_ != 0 then
   some (({ x13.1 with gI:=a2.gI }:aA),x13.2.1,x13.2.2)
  else
   (aZ x13.2.1.p_.bC x13.1.iO).bind λx16=>
   (aS x13.2.1 x13.2.2 (x16.bO != 0) 132 a2.gI).bind λx30=>
   (fA n x13.2.1 x30 (aK.mk a2.dM x16.bO 0) a2.gI).bind λx32=>
   some (({ x13.1 with fB:=x32.1,gI:=a2.gI }:aA),x32.2.1,x32.2.2)
 else
  (iM n a0 a1 x4).bind λx34=>
  (wU x34.1.bR).bind λx37=>
  (fA n a0 x34.2 (aK.mk a2.dM x37 0) a2.gI).bind λx38=>
  some (({ a3 with dJ:=([118,97,114]:cB),fB:=x38.1,aN:=[x34.1] }:aA),x38.2.1,x38.2.2)
def oS (n:Nat) (a0:aE) (a1:aG) (a2:aC):Option (Int × aG):=
 (iL n a0 a1 a2).bind λx2=>
 (fU a0 x2.2 x2.1).bind λx4=>
 (if x4 == 2 then
    (aS a0 x2.2 true 132 a2.gI).bind λx8=>
    some x8
   else
    (aS a0 x2.2 (x4 == 3) 132 a2.gI).bind λx10=>
    some x10).bind λy6=>
 some (x2.1,y6)
def tF (n:Nat) (a0:aE) (a1:aG) (a2:aC) (a3:aA):Option (aA × aE × aG):=
 (oS n a0 a1 a2).bind λx4=>
 (aZ a2.aN 0).bind λx6=>
 (kL n a0 x4.2 x6).bind λx7=>
 if x7 then
  (kF n a0 x4.2 x6 ({ a3 with aN:=[] }:aA) x4.1).bind λx15=>
  if x15.2.2.e_ == 0 then
   (fU x15.2.1 x15.2.2 x4.1).bind λx18=>
   (aZ x15.2.1.p_.bC x15.1.iO).bind λx19=>
   (aS x15.2.1 x15.2.2 (x19.bO == x18) 132 a2.gI).bind λx21=>
   some (({ x15.1 with gI:=a2.gI }:aA),x15.2.1,x21)
  else
   some (({ x15.1 with gI:=a2.gI }:aA),x15.2.1,x15.2.2)
 else
  (iM n a0 x4.2 x6).bind λx36=>
  (fU a0 x36.2 x4.1).bind λx39=>
  (wX x36.1.bR x39).bind λx40=>
  (aS a0 x36.2 x40 132 a2.gI).bind λx41=>
  some (({ a3 with dJ:=([115,101,116]:cB),fB:=x4.1,aN:=[x36.1] }:aA),a0,x41)
def qQ (n:Nat) (a0:aE) (a1:aG) (a2:aC) (a3:Int):Option (aB × aG):=
 (fK n a0 a1 a2).bind λx3=>
 (if x3.2.e_ == 0 then
    some (decide (x3.1.dJ=([110,117,109]:cB)))
   else
    some false).bind λy6=>
 if y6 then
  (aZ a0.p_.bC a0.f_).bind λx12=>
  (aZ x12.aQ a3).bind λx15=>
  (aS a0 x3.2 (decide ((i64.wrap x3.1.N_)<x15.jR)) 137 a2.gI).bind λx16=>
  some (x3.1,x16)
 else
  some (x3.1,x3.2)
def tG (n:Nat) (a0:aE) (a1:aG) (a2:aC) (a3:aA):Option (aA × aG):=
 (iL n a0 a1 a2).bind λx4=>
 (fU a0 x4.2 x4.1).bind λx6=>
 (aS a0 x4.2 (x6 == 4) 132 a2.gI).bind λx7=>
 (aZ a2.aN 0).bind λx10=>
 (qQ n a0 x7 x10 x4.1).bind λx11=>
 (aZ a2.aN 1).bind λx19=>
 (iM n a0 x11.2 x19).bind λx20=>
 (wX x20.1.bR 2).bind λx28=>
 (aS a0 x20.2 x28 132 a2.gI).bind λx29=>
 some (({ a3 with dJ:=([112,117,116]:cB),fB:=x4.1,aN:=[x11.1,x20.1] }:aA),x29)
def sD (n:Nat) (a0:aE) (a1:aG) (a2:aC) (a3:aA) (a4:Bool):Option (aA × aE × aG):=
 (if a4 then
    (aZ a0.p_.bC a0.f_).bind λx6=>
    (aS a0 a1 (x6.bO != 0) 135 a2.gI).bind λx9=>
    some x9
   else
    (aS a0 a1 false 135 a2.gI).bind λx24=>
    some x24).bind λy4=>
 (if y4.e_ == 0 then
    (aZ a2.aN 0).bind λx31=>
    (kL n a0 y4 x31).bind λx32=>
    some x32
   else
    some false).bind λy29=>
 if y29 then
  (aZ a2.aN 0).bind λx43=>
  (kF n a0 y4 x43 ({ a3 with aN:=[] }:aA) (-2:Int)).bind λx44=>
  if x44.2.2.e_ == 0 then
   (aZ x44.2.1.p_.bC x44.1.iO).bind λx52=>
   (aZ x44.2.1.p_.bC x44.2.1.f_).bind λx54=>
   (aS x44.2.1 x44.2.2 (x52.bO == x54.bO) 132 a2.gI).bind λx57=>
   some (({ x44.1 with gI:=a2.gI }:aA),x44.2.1,x57)
  else
   some (({ x44.1 with gI:=a2.gI }:aA),x44.2.1,x44.2.2)
 else
  (aZ a2.aN 0).bind λx83=>
  (iM n a0 y4 x83).bind λx84=>
  (aZ a0.p_.bC a0.f_).bind λx92=>
  (wX x84.1.bR x92.bO).bind λx95=>
  (aS a0 x84.2 x95 132 a2.gI).bind λx96=>
  some (({ a3 with dJ:=([114,101,116,117,114,110]:cB),aN:=[x84.1] }:aA),a0,x96)
@[go_sem] def kX (eQ:aE->aG->aC->Bool->Option (aA × aE × aG)) (a2:aC) (a3:Bool):Nat->(List aA)->Int->aE->aG->Option ((List aA) × aE × aG)
 | 0,_,_,_,_=>none
 | c9+1,v4,v5,v6,v7=>
   if decide (v5<(a2.aN.length:Int)) then
    (aZ a2.aN v5).bind λx14=>
    if v7.e_ != 0 then
     some (v4,v6,v7)
    else
     (if a3 then
        (eQ v6 v7 x14 (v5 == (i64.wrap ((a2.aN.length:Int) - 1)))).bind λx28=>
        iN (v4.length+[x28.1].length<=1073741824) <|
        some ((v4++[x28.1]),x28.2.1,x28.2.2)
       else
        (eQ v6 v7 x14 false).bind λx33=>
        iN (v4.length+[x33.1].length<=1073741824) <|
        some ((v4++[x33.1]),x33.2.1,x33.2.2)).bind λy26=>
     kX eQ a2 a3 c9 y26.1 (i64.wrap (v5+1)) y26.2.1 y26.2.2
   else
    some (v4,v6,v7)
def oU (eQ:aE->aG->aC->Bool->Option (aA × aE × aG)) (n:Nat) (a0:aE) (a1:aG) (a2:aC) (a3:Bool):Option ((List aA) × aE × aG):=
 (kX eQ a2 a3 n [] 0 a0 a1).bind λy8=>
 iN (0<=(a0.bI.length:Int)/\(a0.bI.length:Int)<=(y8.2.1.bI.length:Int)) <|
 some (y8.1,({ y8.2.1 with bI:=(y8.2.1.bI.take (a0.bI.length)) }:aE),y8.2.2)
@[go_sem] def iB (dE:aE->aG->aC->Bool->Option ((List aA) × aE × aG)) (a2:aC):Nat->Int->aE->aG->aA->Option (aE × aG × aA)
 | 0,_,_,_,_=>none
 | c59+1,v54,v55,v56,v57=>
   if decide (v54<((a2.aN.drop 2).length:Int)) then
    (aZ (a2.aN.drop 2) v54).bind λx64=>
    (dE v55 v56 x64 false).bind λx70=>
    iB dE a2 c59 (i64.wrap (v54+1)) x70.2.1 x70.2.2 ({ v57 with eG:=x70.1 }:aA)
   else
    some (v55,v56,v57)
def lK (dE:aE->aG->aC->Bool->Option ((List aA) × aE × aG)) (rK:aE->aG->aC->aA->Option (aA × aE × aG)) (n:Nat) (a0:aE) (a1:aG) (a2:aC) (a3:Bool):Option (aA × aE × aG):=
 if a2.bJ == 5 then
  (aZ a2.aN 0).bind λx5=>
  (fK n a0 a1 x5).bind λx6=>
  (fA n a0 x6.2 (aK.mk a2.dM 1 0) a2.gI).bind λx13=>
  some ((aA.mk ([108,101,116]:cB) x13.1 0 [x6.1] [] [] a2.gI),x13.2.1,x13.2.2)
 else
  if a2.bJ == 6 then
   (qR n a0 a1 a2 (aA.mk [] (-1:Int) 0 [] [] [] a2.gI)).bind λx16=>
   some (x16.1,x16.2.1,x16.2.2)
  else
   if a2.bJ == 7 then
    (Aw (i64.wrap (min a2.pX 1025))).bind λx19=>
    (aS a0 a1 x19 136 a2.gI).bind λx20=>
    (fA n a0 x20 (aK.mk a2.dM 4 (i64.wrap a2.pX)) a2.gI).bind λx23=>
    some ((aA.mk ([97,114,114]:cB) x23.1 0 [] [] [] a2.gI),x23.2.1,x23.2.2)
   else
    if a2.bJ == 8 then
     (tF n a0 a1 a2 (aA.mk [] (-1:Int) 0 [] [] [] a2.gI)).bind λx26=>
     some (x26.1,x26.2.1,x26.2.2)
    else
     if a2.bJ == 9 then
      (tG n a0 a1 a2 (aA.mk [] (-1:Int) 0 [] [] [] a2.gI)).bind λx29=>
      some (x29.1,a0,x29.2)
     else
      if a2.bJ == 10 then
       (kF n a0 a1 a2 (aA.mk [] (-1:Int) 0 [] [] [] a2.gI) (-1:Int)).bind λx32=>
       some (x32.1,x32.2.1,x32.2.2)
      else
       if a2.bJ == 11 then
        (aZ a2.aN 0).bind λx35=>
        (fK n a0 a1 x35).bind λx36=>
        (aZ a2.aN 1).bind λx43=>
        (dE a0 x36.2 x43 false).bind λx44=>
        iN ((0:Int)<=2/\2<=(a2.aN.length:Int)) <|
        (iB dE a2 n 0 x44.2.1 x44.2.2 (aA.mk ([105,102]:cB) (-1:Int) 0 [x36.1] x44.1 [] a2.gI)).bind λy58=>
        some (y58.2.2,y58.1,y58.2.1)
       else
        if a2.bJ == 12 then
         (rK a0 a1 a2 (aA.mk [] (-1:Int) 0 [] [] [] a2.gI)).bind λx73=>
         some (x73.1,x73.2.1,x73.2.2)
        else
         if a2.bJ == 13 then
          (sD n a0 a1 a2 (aA.mk [] (-1:Int) 0 [] [] [] a2.gI) a3).bind λx76=>
          some (x76.1,x76.2.1,x76.2.2)
         else
          some ((aA.mk [] (-1:Int) 0 [] [] [] a2.gI),a0,a1)
def pQ (dE:aE->aG->aC->Bool->Option ((List aA) × aE × aG)) (n:Nat) (a0:aE) (a1:aG) (a2:aC) (a3:aA):Option (aA × aE × aG):=
 (aZ a2.aN 0).bind λx4=>
 (fK n a0 a1 x4).bind λx5=>
 (aZ a2.aN 1).bind λx6=>
 (fK n a0 x5.2 x6).bind λx7=>
 (fA n a0 x7.2 (aK.mk a2.dM 1 0) a2.gI).bind λx21=>
 (aZ a2.aN 2).bind λx23=>
 (dE x21.2.1 x21.2.2 x23 false).bind λx24=>
 iN (0<=(min (a0.bI.length:Int) (x24.2.1.bI.length:Int))/\(min (a0.bI.length:Int) (x24.2.1.bI.length:Int))<=(x24.2.1.bI.length:Int)) <|
 some (({ a3 with dJ:=([102,111,114]:cB),fB:=x21.1,aN:=[x5.1,x7.1],bH:=x24.1 }:aA),({ x24.2.1 with bI:=(x24.2.1.bI.take ((min (a0.bI.length:Int) (x24.2.1.bI.length:Int)).toNat)) }:aE),x24.2.2)
def eX:Nat->(aE->aG->aC->Bool->Option ((List aA) × aE × aG)) × (aE->aG->aC->Bool->Option (aA × aE × aG)) × (aE->aG->aC->aA->Option (aA × aE × aG))
 | 0=>(λ_ _ _ _=>none,λ_ _ _ _=>none,λ_ _ _ _=>none)
 | n+1=>(oU (eX n).2.1 n,lK (eX n).1 (eX n).2.2 n,pQ (eX n).1 n)
def xN (n:Nat):aE->aG->aC->Bool->Option ((List aA) × aE × aG):=(eX n).1
def EY (n:Nat):aE->aG->aC->Bool->Option (aA × aE × aG):=(eX n).2.1
def Jt (n:Nat):aE->aG->aC->aA->Option (aA × aE × aG):=(eX n).2.2
def zP (a0:aC):Option Bool:=
 (if decide (0<(a0.aN.length:Int)) then
    (aZ a0.aN (i64.wrap ((a0.aN.length:Int) - 1))).bind λx4=>
    some (x4.bJ == 13)
   else
    some false).bind λy2=>
 some y2
@[go_sem] def jZ (n:Nat) (a3:aC):Nat->Int->aE->aG->Option (aE × aG)
 | 0,_,_,_=>none
 | c11+1,v7,v8,v9=>
   if decide (v7<((a3.aN.drop (max (i64.wrap ((a3.aN.length:Int) - 1)) 0).toNat).length:Int)) then
    (aZ (a3.aN.drop (max (i64.wrap ((a3.aN.length:Int) - 1)) 0).toNat) v7).bind λx16=>
    (aZ v8.p_.bC v8.f_).bind λx22=>
    (xN n v8 v9 x16 true).bind λx25=>
    (aZ x25.2.1.p_.bC v8.f_).bind λx26=>
    ((aZ (x25.2.1.p_.bC.set v8.f_.toNat { x26 with bH:=x25.1 }) v8.f_).bind λx56=>
      if x56.bO == 0 then
       (aS ({ x25.2.1 with p_:=⟨(x25.2.1.p_.bC.set v8.f_.toNat { x26 with bH:=x25.1 })⟩ }:aE) x25.2.2 true 135 a3.gI).bind λx71=>
       some x71
      else
       (zP x16).bind λx73=>
       (aS ({ x25.2.1 with p_:=⟨(x25.2.1.p_.bC.set v8.f_.toNat { x26 with bH:=x25.1 })⟩ }:aE) x25.2.2 x73 135 a3.gI).bind λx74=>
       some x74).bind λy55=>
    jZ n a3 c11 (i64.wrap (v7+1)) ({ x25.2.1 with p_:=⟨(x25.2.1.p_.bC.set v8.f_.toNat { x26 with bH:=x25.1 })⟩ }:aE) y55
   else
    some (v8,v9)
def mJ (n:Nat) (a0:aE) (a1:aG) (a2:Int) (a3:aC):Option (aE × aG):=
 (nL n a0 a1 a2).bind λx2=>
 iN (0<=(max (i64.wrap ((a3.aN.length:Int) - 1)) 0)/\(max (i64.wrap ((a3.aN.length:Int) - 1)) 0)<=(a3.aN.length:Int)) <|
 (jZ n a3 n 0 x2.1 x2.2).bind λy10=>
 some (y10.1,y10.2)
def Am (rec_:Int->List Int->Option (Bool × List Int)) (to:Int):List Int->List Int->Option (Bool × List Int)
 | [],seen=>some (false,seen)
 | k::ks,seen=>
   if k == to then some (true,seen)
   else
    (aZ seen k).bind λs=>
    if i64.wrap (s+1) == 1 then
     (rec_ k (seen.set k.toNat (i64.wrap (s+1)))).bind λr=>
     if r.1=true then some (true,r.2) else Am rec_ to ks r.2
    else Am rec_ to ks (seen.set k.toNat (i64.wrap (s+1)))
def lP:Nat->aE->Int->Int->List Int->Option (Bool × List Int)
 | 0,_,_,_,_=>none
 | n+1,c,fr,to,seen=>(aZ c.cF fr).bind λl=>iN (l.length<=1073741824) <| Am (λk s=>lP n c k to s) to l seen
abbrev Look:=Int->aC->aE->aG->Option (aE × aG)
def wV (look:Look):List aC->Nat->aE->aG->Option (aE × aG)
 | [],_,c,w=>some (c,w)
 | f::l,i,c,w=>if w.e_ == 0 then (look i f c w).bind λr=>wV look l (i+1) r.1 r.2 else wV look l (i+1) c w
def Ax (nodes:List aC):List Look->aE->aG->Option (aE × aG)
 | [],c,w=>some (c,w)
 | look::ls,c,w=>(wV look nodes 0 c w).bind λr=>Ax nodes ls r.1 r.2
def BY (n len:Nat) (c:aE):List aC->Nat->aG->Option aG
 | [],_,w=>some w
 | f::l,i,w=>if w.e_ == 0 then (lP n c i i (List.replicate len 0)).bind λr=>(aS c w (!r.1) 134 f.gI).bind λw'=>BY n len c l (i+1) w' else BY n len c l (i+1) w
def Ay (n:Nat) (a0:cB):Option (bM × Int × Int):=
 (Cu n a0).bind λp=>
 if p.2.1 != 0 then some (⟨[]⟩,p.2.1,p.2.2)
 else
  (qP n aE.Z ⟨0,0⟩ p.1).bind λa=>
  iN (p.1.aN.length<=1073741824) <|
  (Ax p.1.aN [λi f c w=>mH n c w i f,λi f c w=>mJ n c w i f] a.1 a.2).bind λb=>
  (BY n p.1.aN.length b.1 p.1.aN 0 b.2).bind λw=>
  if w.e_ != 0 then some (⟨[]⟩,w.e_,w.FL) else some (b.1.p_,0,0)
structure aM where
 p_:bM
 f_:aJ
 gS:Int
 e_:Int
def eJ (a0:aM):Option aM:=
 if decide (16384<(i64.wrap (a0.gS+1))) then
  some ({ a0 with gS:=(i64.wrap (a0.gS+1)),e_:=161 }:aM)
 else
  some ({ a0 with gS:=(i64.wrap (a0.gS+1)) }:aM)
def Bb (a0:Int) (a1:(List Int)):Option Int:=
 (if decide (a0<0) then
    some true
   else
    some (decide ((a1.length:Int)<=a0))).bind λy1=>
 if y1 then
  some a0
 else
  (aZ a1 a0).bind λx7=>
  some x7
def yC (yA:(List aB)->(List Int)->Option (List aB)) (n:Nat) (a0:aB) (a1:(List Int)):Option aB:=
 (Bb a0.fB a1).bind λx3=>
 (yA a0.aN a1).bind λx5=>
 some ({ a0 with fB:=x3,aN:=x5 }:aB)
@[go_sem] def xJ (tW:aB->(List Int)->Option aB) (a0:(List aB)) (a1:(List Int)):Nat->(List aB)->Int->Option (List aB)
 | 0,_,_=>none
 | c5+1,v2,v3=>
   if decide (v3<(a0.length:Int)) then
    (aZ a0 v3).bind λx10=>
    (tW x10 a1).bind λx16=>
    iN (v2.length+[x16].length<=1073741824) <|
    xJ tW a0 a1 c5 (v2++[x16]) (i64.wrap (v3+1))
   else
    some v2
def wR (tW:aB->(List Int)->Option aB) (n:Nat) (a0:(List aB)) (a1:(List Int)):Option (List aB):=
 (xJ tW a0 a1 n [] 0).bind λy4=>
 some y4
def Cg:Nat->(aB->(List Int)->Option aB) × ((List aB)->(List Int)->Option (List aB))
 | 0=>(λ_ _=>none,λ_ _=>none)
 | n+1=>(yC (Cg n).2 n,wR (Cg n).1 n)
def uB (n:Nat):aB->(List Int)->Option aB:=(Cg n).1
def wS (n:Nat):(List aB)->(List Int)->Option (List aB):=(Cg n).2
def eI (a0:aM) (a1:aK):Option (Int × aM):=
 if decide (4096<=(a0.f_.aQ.length:Int)) then
  some (0,({ a0 with e_:=161 }:aM))
 else
  iN (a0.f_.aQ.length+[a1].length<=1073741824) <|
  some ((i64.wrap (((a0.f_.aQ++[a1]).length:Int) - 1)),({ a0 with f_:=({ a0.f_ with aQ:=(a0.f_.aQ++[a1]) }:aJ) }:aM))
@[go_sem] def fH (n:Nat) (a1:aA) (a3:(List Int)) (a2:aJ):Nat->(List aA)->(List Int)->Int->aM->Option ((List aA) × (List Int) × aM)
 | 0,_,_,_,_=>none
 | c9+1,v4,v5,v6,v7=>
   if decide (v6<(a1.aN.length:Int)) then
    ((aZ a1.aN v6).bind λx15=>
      if x15.bR == 4 then
       (Bb x15.fB a3).bind λx22=>
       iN (v5.length+[x22].length<=1073741824) <|
       some (v4,(v5++[x22]),v7)
      else
       (aZ a2.aQ v6).bind λx29=>
       if x29.bJ == 1 then
        (eJ v7).bind λx35=>
        (eI x35 x29).bind λx37=>
        iN (v5.length+[x37.1].length<=1073741824) <|
        (uB n x15 a3).bind λx44=>
        iN (v4.length+[(aA.mk ([108,101,116]:cB) x37.1 0 [x44] [] [] a1.gI)].length<=1073741824) <|
        some ((v4++[(aA.mk ([108,101,116]:cB) x37.1 0 [x44] [] [] a1.gI)]),(v5++[x37.1]),x37.2)
       else
        (eJ v7).bind λx49=>
        (eI x49 x29).bind λx51=>
        iN (v5.length+[x51.1].length<=1073741824) <|
        (uB n x15 a3).bind λx58=>
        iN (v4.length+[(aA.mk ([118,97,114]:cB) x51.1 0 [x58] [] [] a1.gI)].length<=1073741824) <|
        some ((v4++[(aA.mk ([118,97,114]:cB) x51.1 0 [x58] [] [] a1.gI)]),(v5++[x51.1]),x51.2)).bind λy14=>
    fH n a1 a3 a2 c9 y14.1 y14.2.1 (i64.wrap (v6+1)) y14.2.2
   else
    some (v4,v5,v7)
def nK (n:Nat) (a0:aM) (a1:aA) (a2:aJ) (a3:(List Int)):Option ((List aA) × (List Int) × aM):=
 (fH n a1 a3 a2 n [] [] 0 a0).bind λy8=>
 some (y8.1,y8.2.1,y8.2.2)
def kJ (a0:aM) (a1:aA) (a2:(List Int)) (a3:aA):Option aA:=
 (aZ a0.p_.bC a1.iO).bind λx4=>
 if a1.fB == (-2:Int) then
  if decide (a3.gI<0) then
   some ({ a3 with gI:=a1.gI }:aA)
  else
   some a3
 else
  if a1.fB == (-1:Int) then
   some (aA.mk ([118,97,114]:cB) (-1:Int) x4.bO [] [] [] a1.gI)
  else
   (Bb a1.fB a2).bind λx12=>
   some (aA.mk ([115,101,116]:cB) x12 0 [] [] [] a1.gI)
def fE (a0:aM) (a1:aB) (a2:aA):Option (aA × aM):=
 if decide (a2.dJ=([118,97,114]:cB)) then
  (eI a0 (aK.mk [] a2.iO 0)).bind λx5=>
  some (({ a2 with fB:=x5.1,iO:=0,aN:=[a1] }:aA),x5.2)
 else
  some (({ a2 with iO:=0,aN:=[a1] }:aA),a0)
@[go_sem] def dZ (eY:aM->aA->(List Int)->aA->Option ((List aA) × aM)) (a1:(List aA)) (a2:(List Int)) (a3:aA):Nat->(List aA)->Int->aM->Option (((List aA) × aM) ⊕ ((List aA) × aM))
 | 0,_,_,_=>none
 | c7+1,v3,v4,v5=>
   if decide (v4<(a1.length:Int)) then
    (aZ a1 v4).bind λx12=>
    if v5.e_ != 0 then
     some (.inr ([],v5))
    else
     (eY v5 x12 a2 a3).bind λx19=>
     iN (v3.length+x19.1.length<=1073741824) <|
     dZ eY a1 a2 a3 c7 (v3++x19.1) (i64.wrap (v4+1)) x19.2
   else
    some (.inl (v3,v5))
def gQ (eY:aM->aA->(List Int)->aA->Option ((List aA) × aM)) (n:Nat) (a0:aM) (a1:(List aA)) (a2:(List Int)) (a3:aA):Option ((List aA) × aM):=
 (dZ eY a1 a2 a3 n [] 0 a0).bind λy6=>
 y6.elim (λy6a=>
  some (y6a.1,y6a.2)) (λy6a=>
  some y6a)
def eT (qE:aM->aA->(List Int)->aA->Option ((List aA) × aM)) (eS:aM->(List aA)->(List Int)->aA->Option ((List aA) × aM)) (n:Nat) (a0:aM) (a1:aA) (a2:(List Int)) (a3:aA):Option ((List aA) × aM):=
 if decide (a1.dJ=([99,97,108,108]:cB)) then
  (qE a0 a1 a2 a3).bind λx4=>
  some (x4.1,x4.2)
 else
  (eJ a0).bind λx6=>
  if decide (a1.dJ=([114,101,116,117,114,110]:cB)) then
   (aZ a1.aN 0).bind λx9=>
   (uB n x9 a2).bind λx10=>
   if decide (a3.gI<0) then
    (fE x6 x10 ({ a3 with gI:=a1.gI }:aA)).bind λx19=>
    some ([x19.1],x19.2)
   else
    (fE x6 x10 a3).bind λx21=>
    some ([x21.1],x21.2)
  else
   (Bb a1.fB a2).bind λx23=>
   (wS n a1.aN a2).bind λx24=>
   (eS x6 a1.bH a2 a3).bind λx27=>
   (eS x27.2 a1.eG a2 a3).bind λx28=>
   some ([({ a1 with fB:=x23,aN:=x24,bH:=x27.1,eG:=x28.1 }:aA)],x28.2)
@[go_sem] def fG (x5:aJ):Nat->(List Int)->Int->aM->Option ((List Int) × aM)
 | 0,_,_,_=>none
 | c20+1,v16,v17,v18=>
   if decide (v17<((x5.aQ.drop x5.aT.toNat).length:Int)) then
    (aZ (x5.aQ.drop x5.aT.toNat) v17).bind λx25=>
    (eI v18 x25).bind λx31=>
    iN (v16.length+[x31.1].length<=1073741824) <|
    fG x5 c20 (v16++[x31.1]) (i64.wrap (v17+1)) x31.2
   else
    some (v16,v18)
def gZ (eS:aM->(List aA)->(List Int)->aA->Option ((List aA) × aM)) (n:Nat) (a0:aM) (a1:aA) (a2:(List Int)) (a3:aA):Option ((List aA) × aM):=
 (eJ a0).bind λx3=>
 (aZ x3.p_.bC a1.iO).bind λx5=>
 (nK n x3 a1 x5 a2).bind λx11=>
 iN (0<=x5.aT/\x5.aT<=(x5.aQ.length:Int)) <|
 (fG x5 n x11.2.1 0 x11.2.2).bind λy19=>
 if y19.2.e_ != 0 then
  some ([],y19.2)
 else
  (kJ y19.2 a1 a2 a3).bind λx48=>
  (eS y19.2 x5.bH y19.1 x48).bind λx49=>
  iN (x11.1.length+x49.1.length<=1073741824) <|
  some ((x11.1++x49.1),x49.2)
def iS:Nat->(aM->(List aA)->(List Int)->aA->Option ((List aA) × aM)) × (aM->aA->(List Int)->aA->Option ((List aA) × aM)) × (aM->aA->(List Int)->aA->Option ((List aA) × aM))
 | 0=>(λ_ _ _ _=>none,λ_ _ _ _=>none,λ_ _ _ _=>none)
 | n+1=>(gQ (iS n).2.1 n,eT (iS n).2.2 (iS n).1 n,gZ (iS n).1 n)
def eU (n:Nat):aM->(List aA)->(List Int)->aA->Option ((List aA) × aM):=(iS n).1
def gW (n:Nat):aM->aA->(List Int)->aA->Option ((List aA) × aM):=(iS n).2.1
def lF (n:Nat):aM->aA->(List Int)->aA->Option ((List aA) × aM):=(iS n).2.2
def xK (n:Nat) (a0:bM) (a1:Int):Option (aJ × Int):=
 (if decide (a1<0) then
    some true
   else
    some (decide ((a0.bC.length:Int)<=a1))).bind λy3=>
 if y3 then
  some ((aJ.mk [] false 0 0 [] []),11)
 else
  (aZ a0.bC a1).bind λx9=>
  iN (x9.aQ.length<=1073741824) <|
  (eU n (aM.mk a0 x9 0 0) x9.bH [] (aA.mk ([114,101,116,117,114,110]:cB) (-1:Int) 0 [] [] [] (-1:Int))).bind λx17=>
  if x17.2.e_ != 0 then
   some ((aJ.mk [] false 0 0 [] []),x17.2.e_)
  else
   some (({ x17.2.f_ with bH:=x17.1 }:aJ),0)
structure aF where
 dJ:Int
 N_:Int
 aN:(List aF)
mutual
def aF.C:aF->List V
 | ⟨a0,a1,a2⟩=>[.lit (.int .i64 a0),.lit (.int .u32 a1),.list .none (aF.CL a2)]
def aF.CL:List aF->List (List V)
 | []=>[]
 | x::l=>aF.C x::aF.CL l
end
theorem aF.CL_eq (l:List aF):aF.CL l=l.map aF.C:=by
 induction l with
 | nil=>rfl
 | cons x l ih=>rw [aF.CL,ih];rfl
@[go_sem] theorem aF.C_eq (x:aF):aF.C x=[.lit (.int .i64 x.dJ),.lit (.int .u32 x.N_),.list .none (x.aN.map aF.C)]:=by
 cases x;simp only [aF.C,aF.CL_eq]
def aF.Z:aF:=⟨0,0,[]⟩
structure aL where
 aX:(List aF)
 gM:(List Int)
 tK:(List Int)
 kZ:(List Int)
def aL.C (x:aL):List V:=[.list .none (x.aX.map aF.C),.list .none (x.gM.map (cI .i64)),.list .none (x.tK.map (cI .u32)),.list .none (x.kZ.map (cI .u32))]
@[go_sem] theorem aL.C_eq (x:aL):aL.C x=[.list .none (x.aX.map aF.C),.list .none (x.gM.map (cI .i64)),.list .none (x.tK.map (cI .u32)),.list .none (x.kZ.map (cI .u32))]:=rI rfl
structure aO where
 c_:aL
 e_:Int
structure eM where
 fW:Int
def eM.C (x:eM):List V:=[.lit (.int .i64 x.fW)]
@[go_sem] theorem eM.C_eq (x:eM):eM.C x=[.lit (.int .i64 x.fW)]:=rI rfl
structure aP where
 zS:(List Int)
 xQ:(List Int)
 bO:Int
 KL:Int
def aP.C (x:aP):List V:=[.list .none (x.zS.map (cI .i64)),.list .none (x.xQ.map (cI .i64)),.lit (.int .i64 x.bO),.lit (.int .i64 x.KL)]
@[go_sem] theorem aP.C_eq (x:aP):aP.C x=[.list .none (x.zS.map (cI .i64)),.list .none (x.xQ.map (cI .i64)),.lit (.int .i64 x.bO),.lit (.int .i64 x.KL)]:=rI rfl
structure bY where
 bJ:Int
 To_0:Int
 To_1:Int
 From_0:Int
 From_1:Int
 From_2:Int
 From_3:Int
 N_:Int
def bY.C (x:bY):List V:=[.lit (.int .i64 x.bJ),.lit (.int .i64 x.To_0),.lit (.int .i64 x.To_1),.lit (.int .i64 x.From_0),.lit (.int .i64 x.From_1),.lit (.int .i64 x.From_2),.lit (.int .i64 x.From_3),.lit (.int .u32 x.N_)]
@[go_sem] theorem bY.C_eq (x:bY):bY.C x=[.lit (.int .i64 x.bJ),.lit (.int .i64 x.To_0),.lit (.int .i64 x.To_1),.lit (.int .i64 x.From_0),.lit (.int .i64 x.From_1),.lit (.int .i64 x.From_2),.lit (.int .i64 x.From_3),.lit (.int .u32 x.N_)]:=rI rfl
structure bL where
 bJ:Int
 A_:aF
 B_:aF
 jR:Int
def bL.C (x:bL):List V:=[.lit (.int .i64 x.bJ)]++(aF.C x.A_)++(aF.C x.B_)++[.lit (.int .i64 x.jR)]
@[go_sem] theorem bL.C_eq (x:bL):bL.C x=[.lit (.int .i64 x.bJ)]++(aF.C x.A_)++(aF.C x.B_)++[.lit (.int .i64 x.jR)]:=rI rfl
structure cU where
 iH:(List bY)
 cO:(List bL)
def cU.C (x:cU):List V:=[.list .none (x.iH.map bY.C),.list .none (x.cO.map bL.C)]
@[go_sem] theorem cU.C_eq (x:cU):cU.C x=[.list .none (x.iH.map bY.C),.list .none (x.cO.map bL.C)]:=rI rfl
def cU.Z:cU:=⟨[],[]⟩
structure aI where
 f_:aJ
 c_:aL
 x_:aP
 p_:cU
 dK:Int
 cW:Int
 e_:Int
structure bB where
 bJ:Int
 JQ:cU
 Rc:cU
 Rb:cU
 WN:aF
 tK:aF
 kZ:aF
 QT:Int
 bH:(List bB)
 eG:(List bB)
mutual
def bB.C:bB->List V
 | ⟨a0,a1,a2,a3,a4,a5,a6,a7,a8,a9⟩=>[.lit (.int .i64 a0)]++(cU.C a1)++(cU.C a2)++(cU.C a3)++(aF.C a4)++(aF.C a5)++(aF.C a6)++[.lit (.int .i64 a7),.list .none (bB.CL a8),.list .none (bB.CL a9)]
def bB.CL:List bB->List (List V)
 | []=>[]
 | x::l=>bB.C x::bB.CL l
end
theorem bB.CL_eq (l:List bB):bB.CL l=l.map bB.C:=by
 induction l with
 | nil=>rfl
 | cons x l ih=>rw [bB.CL,ih];rfl
@[go_sem] theorem bB.C_eq (x:bB):bB.C x=[.lit (.int .i64 x.bJ)]++(cU.C x.JQ)++(cU.C x.Rc)++(cU.C x.Rb)++(aF.C x.WN)++(aF.C x.tK)++(aF.C x.kZ)++[.lit (.int .i64 x.QT),.list .none (x.bH.map bB.C),.list .none (x.eG.map bB.C)]:=by
 cases x;simp only [bB.C,bB.CL_eq]
structure dP where
 f_:aJ
 c_:aL
 x_:aP
 l_:(List bB)
def dP.C (x:dP):List V:=(aJ.C x.f_)++(aL.C x.c_)++(aP.C x.x_)++[.list .none (x.l_.map bB.C)]
@[go_sem] theorem dP.C_eq (x:dP):dP.C x=(aJ.C x.f_)++(aL.C x.c_)++(aP.C x.x_)++[.list .none (x.l_.map bB.C)]:=rI rfl
@[go_sem] def Bi (kR:(List aA)->Option Int) (a0:(List aA)):Nat->Int->Int->Option Int
 | 0,_,_=>none
 | c5+1,v2,v3=>
   if decide (v3<(a0.length:Int)) then
    ((aZ a0 v3).bind λx11=>
      if decide (x11.dJ=([102,111,114]:cB)) then
       (kR x11.bH).bind λx18=>
       (kR x11.eG).bind λx19=>
       some (i64.wrap ((i64.wrap (v2+1))+(i64.wrap (x18+x19))))
      else
       (kR x11.bH).bind λx22=>
       (kR x11.eG).bind λx23=>
       some (i64.wrap (v2+(i64.wrap (x22+x23))))).bind λy10=>
    Bi kR a0 c5 y10 (i64.wrap (v3+1))
   else
    some v2
def zO (kR:(List aA)->Option Int) (n:Nat) (a0:(List aA)):Option Int:=
 (Bi kR a0 n 0 0).bind λy4=>
 some y4
def Au:Nat->(List aA)->Option Int
 | 0=>λ_=>none
 | n+1=>zO (Au n) n
def wI (a0:List Int) (a1:Int):Option (List Int):=if a0.length=1/\a1=4 then some (a0++a0++a0++a0) else none
def Cc (a0:Int):Option aF:=
 some (aF.mk 2 (u32.wrap a0) [])
@[go_sem] def Cb (rQ:aF->Option Int) (a0:aF):Nat->Int->Int->Option Int
 | 0,_,_=>none
 | c6+1,v3,v4=>
   if decide (v4<(a0.aN.length:Int)) then
    (aZ a0.aN v4).bind λx11=>
    (rQ x11).bind λx17=>
    Cb rQ a0 c6 (i64.wrap (v3+x17)) (i64.wrap (v4+1))
   else
    some v3
def AH (rQ:aF->Option Int) (n:Nat) (a0:aF):Option Int:=
 (Cb rQ a0 n 1 0).bind λy5=>
 some y5
def xY:Nat->aF->Option Int
 | 0=>λ_=>none
 | n+1=>AH (xY n) n
@[go_sem] def iW (iJ:aL->aB->Option Int) (a1:aB) (a0:aL):Nat->Int->Int->Option Int
 | 0,_,_=>none
 | c18+1,v15,v16=>
   if decide (v16<(a1.aN.length:Int)) then
    (aZ a1.aN v16).bind λx23=>
    (iJ a0 x23).bind λx29=>
    iW iJ a1 a0 c18 (i64.wrap (v15+x29)) (i64.wrap (v16+1))
   else
    some v15
def fL (iJ:aL->aB->Option Int) (n:Nat) (a0:aL) (a1:aB):Option Int:=
 if decide (a1.dJ=([118,97,114]:cB)) then
  (aZ a0.aX a1.fB).bind λx4=>
  (xY n x4).bind λx5=>
  some x5
 else
  (iW iJ a1 a0 n 1 0).bind λy17=>
  some y17
def jL:Nat->aL->aB->Option Int
 | 0=>λ_ _=>none
 | n+1=>fL (jL n) n
def Al (a0:aF) (a1:(List Int)):Option Int:=
 if a0.dJ == 1 then
  some a0.N_
 else
  if decide ((i64.wrap a0.N_)<(a1.length:Int)) then
   (aZ a1 a0.N_).bind λx4=>
   some x4
  else
   some 0
def xX (a0:Bool):Option Int:=
 if a0 then
  some 1
 else
  some 0
def Ck (a0:Int) (a1:Int):Option Int:=
 if a0 == 3 then
  some (comK .u32 a1)
 else
  some (u32.wrap (0 - a1))
def mQ (a0:Int) (a1:Int):Option Int:=
 iN (0<=(Ae .u64 (u64.wrap a1) 31)) <|
 iN (0<=(u64.wrap (32 - (Ae .u64 (u64.wrap a1) 31)))) <|
 some (orK .u32 (shlK .u32 a0 (Ae .u64 (u64.wrap a1) 31)) (LB .u32 a0 (u64.wrap (32 - (Ae .u64 (u64.wrap a1) 31)))))
def wL (a0:Int) (a1:Int) (a2:Int):Option Int:=
 if a0 == 5 then
  some (orK .u32 a1 a2)
 else
  if a0 == 6 then
   some (xorK .u32 a1 a2)
  else
   if a0 == 7 then
    some (Ae .u32 a1 a2)
   else
    if a0 == 10 then
     iN (0<=(Ae .u32 a2 31)) <|
     some (shlK .u32 a1 (Ae .u32 a2 31))
    else
     if a0 == 11 then
      iN (0<=(Ae .u32 a2 31)) <|
      some (LB .u32 a1 (Ae .u32 a2 31))
     else
      (mQ a1 (i64.wrap (Ae .u32 a2 31))).bind λx8=>
      some x8
def kO (a0:Int) (a1:Int) (a2:Int):Option (Int × Bool):=
 if a0 == 8 then
  (xX (a1 == a2)).bind λx2=>
  some (x2,true)
 else
  if a0 == 9 then
   (xX (decide (a1<a2))).bind λx5=>
   some (x5,true)
  else
   if a0 == 13 then
    some ((u32.wrap (a1+a2)),true)
   else
    if a0 == 14 then
     some ((u32.wrap (a1 - a2)),true)
    else
     if a0 == 15 then
      some ((u32.wrap (a1*a2)),true)
     else
      if a0 == 16 then
       if a2 == 0 then
        some (0,false)
       else
        iN (a2 ≠ 0) <|
        some ((u32.wrap (a1.tdiv a2)),true)
      else
       if a0 == 17 then
        if a2 == 0 then
         some (0,false)
        else
         iN (a2 ≠ 0) <|
         some ((a1.tmod a2),true)
       else
        (wL a0 a1 a2).bind λx16=>
        some (x16,true)
def lU (xI:aF->(List Int)->Option (Int × Bool)) (n:Nat) (a0:aF) (a1:(List Int)):Option (Int × Bool):=
 if (a0.aN.length:Int) == 0 then
  (Al a0 a1).bind λx3=>
  some (x3,true)
 else
  (aZ a0.aN 0).bind λx5=>
  (xI x5 a1).bind λx6=>
  (if !x6.2 then
     some true
    else
     some ((a0.aN.length:Int) == 1)).bind λy13=>
  if y13 then
   (xX x6.2).bind λx19=>
   (Ck a0.dJ x6.1).bind λx20=>
   some ((u32.wrap (x19*x20)),x6.2)
  else
   (aZ a0.aN 1).bind λx23=>
   (xI x23 a1).bind λx24=>
   if !x24.2 then
    some (0,false)
   else
    (kO a0.dJ x6.1 x24.1).bind λx32=>
    some (x32.1,x32.2)
def nJ:Nat->aF->(List Int)->Option (Int × Bool)
 | 0=>λ_ _=>none
 | n+1=>lU (nJ n) n
def JT (a0:Int):Option aF:=
 some (aF.mk 1 a0 [])
@[go_sem] def rE (tV:aF->Option aF) (a0:aF):Nat->Bool->Int->aF->Option (Bool × aF)
 | 0,_,_,_=>none
 | c9+1,v5,v6,v7=>
   if decide (v6<(a0.aN.length:Int)) then
    (aZ a0.aN v6).bind λx14=>
    (tV x14).bind λx20=>
    iN (v7.aN.length+[x20].length<=1073741824) <|
    (if v5 then
       some (x20.dJ == 1)
      else
       some false).bind λy26=>
    rE tV a0 c9 y26 (i64.wrap (v6+1)) ({ v7 with aN:=(v7.aN++[x20]) }:aF)
   else
    some (v5,v7)
def oG (tV:aF->Option aF) (n:Nat) (a0:aF):Option aF:=
 (rE tV a0 n (a0.dJ != 2) 0 (aF.mk a0.dJ a0.N_ [])).bind λy8=>
 if !y8.1 then
  some y8.2
 else
  (nJ n y8.2 []).bind λx38=>
  if x38.2=true then
   (JT x38.1).bind λx41=>
   some x41
  else
   some y8.2
def pY:Nat->aF->Option aF
 | 0=>λ_=>none
 | n+1=>oG (pY n) n
@[go_sem] def yL (a0:cB):Nat->Int->Option (Unit ⊕ Int)
 | 0,_=>none
 | c4+1,v2=>
   if decide (v2<15) then
    (aZ cD v2).bind λx9=>
    if decide (x9.GF=a0) then
     some (.inr x9.op_)
    else
     yL a0 c4 (i64.wrap (v2+1))
   else
    some (.inl ())
def DM (n:Nat) (a0:cB):Option Int:=
 (yL a0 n 0).bind λy3=>
 y3.elim (λy3a=>
  some 0) (λy3a=>
  some y3a)
@[go_sem] def kM (iV:aL->aB->Option aF) (a1:aB) (a0:aL):Nat->Int->aF->Option aF
 | 0,_,_=>none
 | c23+1,v20,v21=>
   if decide (v20<(a1.aN.length:Int)) then
    (aZ a1.aN v20).bind λx28=>
    (iV a0 x28).bind λx34=>
    iN (v21.aN.length+[x34].length<=1073741824) <|
    kM iV a1 a0 c23 (i64.wrap (v20+1)) ({ v21 with aN:=(v21.aN++[x34]) }:aF)
   else
    some v21
def fZ (iV:aL->aB->Option aF) (n:Nat) (a0:aL) (a1:aB):Option aF:=
 if decide (a1.dJ=([110,117,109]:cB)) then
  (JT a1.N_).bind λx5=>
  some x5
 else
  if decide (a1.dJ=([118,97,114]:cB)) then
   (aZ a0.aX a1.fB).bind λx8=>
   some x8
  else
   (DM n a1.dJ).bind λx16=>
   (kM iV a1 a0 n 0 (aF.mk x16 0 [])).bind λy22=>
   some y22
def jW:Nat->aL->aB->Option aF
 | 0=>λ_ _=>none
 | n+1=>fZ (jW n) n
def gO (n:Nat) (a0:aL) (a1:aB):Option (aF × Int):=
 if a1.bR != 1 then
  some ((aF.mk 0 0 []),132)
 else
  (jL n a0 a1).bind λx5=>
  if decide (2000<x5) then
   some ((aF.mk 0 0 []),161)
  else
   (jW n a0 a1).bind λx8=>
   (pY n x8).bind λx9=>
   some (x9,0)
def mE (n:Nat) (a0:aO) (a1:aB):Option (aF × aO):=
 (gO n a0.c_ a1).bind λx3=>
 if a0.e_ == 0 then
  some (x3.1,({ a0 with e_:=x3.2 }:aO))
 else
  some (x3.1,a0)
@[go_sem] def sQ (n:Nat) (a1:aB):Nat->Int->aO->Option aO
 | 0,_,_=>none
 | c30+1,v27,v28=>
   if decide (v27<(a1.aN.length:Int)) then
    (aZ a1.aN v27).bind λx35=>
    (mE n v28 x35).bind λx41=>
    sQ n a1 c30 (i64.wrap (v27+1)) x41.2
   else
    some v28
@[go_sem] def sR (iI:aO->aB->Option aO) (a1:aB):Nat->Int->aO->Option aO
 | 0,_,_=>none
 | c6+1,v3,v4=>
   if decide (v3<(a1.aN.length:Int)) then
    (aZ a1.aN v3).bind λx11=>
    (iI v4 x11).bind λx17=>
    sR iI a1 c6 (i64.wrap (v3+1)) x17
   else
    some v4
def pN (iI:aO->aB->Option aO) (n:Nat) (a0:aO) (a1:aB):Option aO:=
 (sR iI a1 n 0 a0).bind λy5=>
 (if decide (a1.dJ=([105,110,100,101,120]:cB)) then
    some true
   else
    if decide (a1.dJ=([47]:cB)) then
     some true
    else
     some (decide (a1.dJ=([37]:cB)))).bind λy43=>
 if y43 then
  (sQ n a1 n 0 y5).bind λy53=>
  some y53
 else
  some y5
def mG:Nat->aO->aB->Option aO
 | 0=>λ_ _=>none
 | n+1=>pN (mG n) n
def HH (a0:(List Int)) (a1:Int) (a2:Int):Option Int:=
 if decide ((i64.wrap a1)<(a0.length:Int)) then
  (aZ a0 a1).bind λx2=>
  some x2
 else
  some a2
def sX (a0:Int) (a1:Int) (a2:Int):Option (Int × Int):=
 some ((u32.wrap (u64.wrap ((u64.wrap ((u64.wrap a0)+(u64.wrap a1)))+(u64.wrap a2)))),(u32.wrap (LB .u64 (u64.wrap ((u64.wrap ((u64.wrap a0)+(u64.wrap a1)))+(u64.wrap a2))) 32)))
def IY (a0:bV) (a1:bV):Option bV:=
 (sX a0.AA a1.AA 0).bind λx4=>
 (sX a0.qT a1.qT 0).bind λx6=>
 if x6.2 == 1 then
  some (bV.mk 0 4294967295)
 else
  some (bV.mk x4.1 x6.1)
def uX (a0:Int) (a1:Int):Option (Int × Int):=
 some ((u32.wrap (LB .u64 (u64.wrap ((u64.wrap a0)*(u64.wrap a1))) 32)),(u32.wrap (u64.wrap ((u64.wrap a0)*(u64.wrap a1)))))
def AG (a0:bV) (a1:bV):Option bV:=
 (uX a0.qT a1.qT).bind λx4=>
 if decide (0<x4.1) then
  some (bV.mk 0 4294967295)
 else
  some (bV.mk (u32.wrap (a0.AA*a1.AA)) x4.2)
def Ak (a0:Int) (a1:bV) (a2:bV):Option bV:=
 if a0 == 8 then
  some (bV.mk 0 1)
 else
  if a0 == 9 then
   some (bV.mk 0 1)
  else
   if a0 == 7 then
    some (bV.mk 0 (min a1.qT a2.qT))
   else
    if a0 == 13 then
     (IY a1 a2).bind λx8=>
     some x8
    else
     if a0 == 14 then
      if decide (a2.qT<=a1.AA) then
       some (bV.mk (u32.wrap (a1.AA - a2.qT)) (u32.wrap (a1.qT - a2.AA)))
      else
       some (bV.mk 0 4294967295)
     else
      if a0 == 15 then
       (AG a1 a2).bind λx13=>
       some x13
      else
       if a0 == 16 then
        iN ((max a2.qT 1) ≠ 0) <|
        iN ((max a2.AA 1) ≠ 0) <|
        some (bV.mk (u32.wrap (a1.AA.tdiv (max a2.qT 1))) (u32.wrap (a1.qT.tdiv (max a2.AA 1))))
       else
        if a0 == 17 then
         some (bV.mk 0 (min a1.qT (u32.wrap ((max a2.qT 1) - 1))))
        else
         if a0 == 11 then
          some (bV.mk 0 a1.qT)
         else
          some (bV.mk 0 4294967295)
def oZ (vS:aF->(List Int)->(List Int)->Option bV) (n:Nat) (a0:aF) (a1:(List Int)) (a2:(List Int)):Option bV:=
 if a0.dJ == 1 then
  some (bV.mk a0.N_ a0.N_)
 else
  if a0.dJ == 2 then
   (HH a1 a0.N_ 0).bind λx5=>
   (HH a2 a0.N_ 4294967295).bind λx6=>
   some (bV.mk x5 x6)
  else
   if a0.dJ == 3 then
    some (bV.mk 0 4294967295)
   else
    if a0.dJ == 4 then
     some (bV.mk 0 4294967295)
    else
     (aZ a0.aN 0).bind λx11=>
     (vS x11 a1 a2).bind λx12=>
     (aZ a0.aN 1).bind λx13=>
     (vS x13 a1 a2).bind λx14=>
     (Ak a0.dJ x12 x14).bind λx15=>
     some x15
def wK:Nat->aF->(List Int)->(List Int)->Option bV
 | 0=>λ_ _ _=>none
 | n+1=>oZ (wK n) n
def DX (n:Nat) (a0:aF) (a1:(List Int)) (a2:(List Int)):Option (Int × Int):=
 (wK n a0 a1 a2).bind λx2=>
 some (x2.AA,x2.qT)
def fM (n:Nat) (a0:aL) (a1:aB):Option (Int × Int):=
 (gO n a0 a1).bind λx3=>
 if x3.2 != 0 then
  some (0,4294967295)
 else
  (DX n x3.1 a0.tK a0.kZ).bind λx7=>
  some (x7.1,x7.2)
def mF (n:Nat) (a0:aO) (a1:aA):Option aO:=
 (aZ a1.aN 0).bind λx2=>
 (fM n a0.c_ x2).bind λx3=>
 (aZ a1.aN 1).bind λx10=>
 (fM n a0.c_ x10).bind λx11=>
 (Cc (i64.wrap (4+(a0.c_.gM.length:Int)))).bind λx18=>
 (aZ a0.c_.aX a1.fB).bind λx19=>
 iN (a0.c_.gM.length+[a1.fB].length<=1073741824) <|
 iN (a0.c_.tK.length+[x3.1].length<=1073741824) <|
 iN (a0.c_.kZ.length+[(max x3.1 (u32.wrap ((max x11.2 1) - 1)))].length<=1073741824) <|
 some ({ a0 with c_:=(aL.mk (a0.c_.aX.set a1.fB.toNat x18) (a0.c_.gM++[a1.fB]) (a0.c_.tK++[x3.1]) (a0.c_.kZ++[(max x3.1 (u32.wrap ((max x11.2 1) - 1)))])) }:aO)
@[go_sem] def nV (n:Nat) (x11:aA):Nat->Int->aO->Option aO
 | 0,_,_=>none
 | c21+1,v18,v19=>
   if decide (v18<(x11.aN.length:Int)) then
    ((aZ x11.aN v18).bind λx27=>
      (mG n v19 x27).bind λx33=>
      (if decide (x11.dJ=([108,101,116]:cB)) then
         some true
        else
         if decide (x11.dJ=([105,102]:cB)) then
          some true
         else
          if decide (x11.dJ=([102,111,114]:cB)) then
           some true
          else
           if decide (x11.dJ=([112,117,116]:cB)) then
            some (v18 == 0)
           else
            some false).bind λy35=>
      if y35 then
       (mE n x33 x27).bind λx44=>
       if decide (x11.dJ=([108,101,116]:cB)) then
        (aZ x44.2.c_.aX x11.fB).bind λx48=>
        some ({ x44.2 with c_:=({ x44.2.c_ with aX:=(x44.2.c_.aX.set x11.fB.toNat x44.1) }:aL) }:aO)
       else
        some x44.2
      else
       some x33).bind λy26=>
    nV n x11 c21 (i64.wrap (v18+1)) y26
   else
    some v19
@[go_sem] def iK (eL:aO->(List aA)->Option aO) (n:Nat) (a1:(List aA)):Nat->Int->aO->Option (aO ⊕ aO)
 | 0,_,_=>none
 | c5+1,v2,v3=>
   if decide (v2<(a1.length:Int)) then
    ((aZ a1 v2).bind λx11=>
      (nV n x11 n 0 v3).bind λy20=>
      (if y20.e_ == 0 then
         some (decide (x11.dJ=([102,111,114]:cB)))
        else
         some false).bind λy79=>
      if y79 then
       (mF n y20 x11).bind λx85=>
       if x85.e_ != 0 then
        some (.inr x85)
       else
        (eL x85 x11.bH).bind λx88=>
        (eL x88 x11.eG).bind λx90=>
        some (.inl x90)
      else
       if y20.e_ != 0 then
        some (.inr y20)
       else
        (eL y20 x11.bH).bind λx93=>
        (eL x93 x11.eG).bind λx95=>
        some (.inl x95):Option (aO ⊕ aO)).bind λy10=>
    y10.elim (λy10a=>
     iK eL n a1 c5 (i64.wrap (v2+1)) y10a) (λy10a=>
     some (.inr y10a))
   else
    some (.inl v3)
def oQ (eL:aO->(List aA)->Option aO) (n:Nat) (a0:aO) (a1:(List aA)):Option aO:=
 (iK eL n a1 n 0 a0).bind λy4=>
 y4.elim (λy4a=>
  some y4a) (λy4a=>
  some y4a)
def hY:Nat->aO->(List aA)->Option aO
 | 0=>λ_ _=>none
 | n+1=>oQ (hY n) n
@[go_sem] def uY (a0:aJ):Nat->Int->aO->Option aO
 | 0,_,_=>none
 | c24+1,v21,v22=>
   if decide (v21<((a0.aQ.take a0.aT.toNat).length:Int)) then
    ((aZ (a0.aQ.take a0.aT.toNat) v21).bind λx30=>
      if x30.bJ == 1 then
       (Cc v21).bind λx37=>
       (aZ v22.c_.aX v21).bind λx38=>
       some ({ v22 with c_:=({ v22.c_ with aX:=(v22.c_.aX.set v21.toNat x37) }:aL) }:aO)
      else
       some v22).bind λy29=>
    uY a0 c24 (i64.wrap (v21+1)) y29
   else
    some v22
def wT (n:Nat) (a0:aJ):Option (aL × Int):=
 (if decide (4<a0.aT) then
    some true
   else
    (Au n a0.bH).bind λx5=>
    some (decide (250<x5))).bind λy3=>
 if y3 then
  some ((aL.mk [] [] [] []),136)
 else
  (wI [4294967295] 4).bind λx11=>
  iN (0<=(a0.aQ.length:Int)/\(a0.aQ.length:Int)<=1073741824) <|
  iN (0<=a0.aT/\a0.aT<=(a0.aQ.length:Int)) <|
  (uY a0 n 0 (aO.mk (aL.mk (List.replicate a0.aQ.length aF.Z) [] [0,0,0,0] x11) 0)).bind λy23=>
  (hY n y23 a0.bH).bind λx55=>
  if x55.e_ != 0 then
   some ((aL.mk [] [] [] []),x55.e_)
  else
   some (x55.c_,0)
def mD (a0:eM) (a1:Int):Option (Int × eM):=
 if a1 == 0 then
  some ((-1:Int),a0)
 else
  some (a0.fW,(eM.mk (i64.wrap (a0.fW+(i64.wrap (4*a1))))))
def BU (a0:aJ) (a1:aL) (a2:Int):Option Int:=
 (aZ a0.aQ a2).bind λx3=>
 (if x3.bJ == 1 then
    (aZ a1.aX a2).bind λx11=>
    some (x11.dJ == 1)
   else
    some false).bind λy9=>
 if y9 then
  some 0
 else
  if x3.bJ == 3 then
   some 2
  else
   (if x3.bJ == 4 then
      some (decide (a0.aT<=a2))
     else
      some false).bind λy21=>
   if y21 then
    some x3.jR
   else
    some 1
def BV (a0:aJ):Option Int:=
 if a0.bO == 2 then
  some 1
 else
  if a0.bO == 3 then
   some 2
  else
   some 0
@[go_sem] def DC (a1:aL):Nat->Int->eM->aP->Option (eM × aP)
 | 0,_,_,_=>none
 | c28+1,v24,v25,v26=>
   if decide (v24<(a1.gM.length:Int)) then
    (mD v25 1).bind λx33=>
    iN (v26.xQ.length+[x33.1].length<=1073741824) <|
    DC a1 c28 (i64.wrap (v24+1)) x33.2 ({ v26 with xQ:=(v26.xQ++[x33.1]) }:aP)
   else
    some (v25,v26)
@[go_sem] def DD (a0:aJ) (a1:aL):Nat->Int->eM->aP->Option (eM × aP)
 | 0,_,_,_=>none
 | c11+1,v7,v8,v9=>
   if decide (v7<(a0.aQ.length:Int)) then
    (BU a0 a1 v7).bind λx16=>
    (mD v8 x16).bind λx17=>
    iN (v9.zS.length+[x17.1].length<=1073741824) <|
    DD a0 a1 c11 (i64.wrap (v7+1)) x17.2 ({ v9 with zS:=(v9.zS++[x17.1]) }:aP)
   else
    some (v8,v9)
def DO (n:Nat) (a0:aJ) (a1:aL):Option (aP × Int):=
 (DD a0 a1 n 0 (eM.mk 0) (aP.mk [] [] 0 0)).bind λy10=>
 (DC a1 n 0 y10.1 y10.2).bind λy52=>
 (BV a0).bind λx68=>
 (mD y52.1 x68).bind λx69=>
 if decide (1016<x69.2.fW) then
  some ((aP.mk [] [] 0 0),160)
 else
  some (({ y52.2 with bO:=x69.1,KL:=x69.2.fW }:aP),0)
def kE (a0:aI):Option aI:=
 some ({ a0 with p_:=(cU.mk [] []),dK:=0 }:aI)
def Rl (a0:Int):Option Bool:=
 (if decide (1<=a0) then
    some (decide (a0<=31))
   else
    some false).bind λy1=>
 some y1
def Lq (a0:Int):Option bT:=
 (Rl a0).bind λx2=>
 if !x2 then
  some (bT.mk 0 0)
 else
  (aZ dW a0).bind λx5=>
  some x5
def sJ (a0:Int):Option (Int × Int):=
 (Lq a0).bind λx1=>
 some (x1.to_,x1.Ws)
def Jx (k n:Int) (to fr:List Int):bY:=⟨k,to[0]?.getD (-1),to[1]?.getD (-1),fr[0]?.getD (-1),fr[1]?.getD (-1),fr[2]?.getD (-1),fr[3]?.getD (-1),n⟩
def Oc (a0 a1:Int) (a2 a3:List Int):Option bY:=some (Jx a0 a1 a2 a3)
@[go_sem] def lJ (x1:(Int × Int)):Nat->(List Int)->Int->aI->Option ((List Int) × aI)
 | 0,_,_,_=>none
 | c8+1,v4,v5,v6=>
   if decide (v5<x1.1) then
    iN (v4.length+[v6.dK].length<=1073741824) <|
    lJ x1 c8 (v4++[v6.dK]) (i64.wrap (v5+1)) ({ v6 with dK:=(i64.wrap (v6.dK+1)) }:aI)
   else
    some (v4,v6)
def fJ (n:Nat) (a0:aI) (a1:Int) (a2:Int) (a3:(List Int)):Option ((List Int) × aI):=
 (sJ a1).bind λx1=>
 (lJ x1 n [] 0 a0).bind λy7=>
 if decide (16384<(i64.wrap (y7.2.cW+1))) then
  some (y7.1,({ y7.2 with cW:=(i64.wrap (y7.2.cW+1)),e_:=161 }:aI))
 else
  (Oc a1 a2 y7.1 a3).bind λx23=>
  iN (y7.2.p_.iH.length+[x23].length<=1073741824) <|
  some (y7.1,({ y7.2 with p_:=({ y7.2.p_ with iH:=(y7.2.p_.iH++[x23]) }:cU),cW:=(i64.wrap (y7.2.cW+1)) }:aI))
def aY (n:Nat) (a0:aI) (a1:Int) (a2:Int) (a3:(List Int)):Option (Int × aI):=
 (fJ n a0 a1 a2 a3).bind λx1=>
 (aZ x1.1 0).bind λx2=>
 some (x2,x1.2)
def mA (n:Nat) (a0:aI) (a1:aB):Option (Int × Bool):=
 if a1.bR != 1 then
  some (0,false)
 else
  (gO n a0.c_ a1).bind λx3=>
  some (x3.1.N_,(x3.1.dJ == 1))
def sG (n:Nat) (a0:aL) (a1:aB) (a2:Int):Option Bool:=
 (fM n a0 a1).bind λx3=>
 some (decide ((i64.wrap x3.2)<a2))
def jE (a0:aI) (a1:bL):Option aI:=
 iN (a0.p_.cO.length+[a1].length<=1073741824) <|
 some ({ a0 with p_:=({ a0.p_ with cO:=(a0.p_.cO++[a1]) }:cU) }:aI)
def oF (n:Nat) (a0:aI) (a1:aB) (a2:Int) (a3:Int):Option aI:=
 (aZ a0.f_.aQ a3).bind λx2=>
 (sG n a0.c_ a1 x2.jR).bind λx7=>
 if x7 then
  some a0
 else
  (gO n a0.c_ a1).bind λx10=>
  (fJ n a0 30 (u32.wrap x2.jR) [a2]).bind λx13=>
  (jE x13.2 (bL.mk 1 x10.1 aF.Z x2.jR)).bind λx15=>
  some x15
def nD (n:Nat) (a0:aI) (a1:Int):Option (Int × aI):=
 (aZ a0.x_.zS a1).bind λx1=>
 if decide (a1<a0.f_.aT) then
  (aY n a0 2 (u32.wrap x1) []).bind λx7=>
  some (x7.1,x7.2)
 else
  (aY n a0 4 (u32.wrap x1) []).bind λx9=>
  some (x9.1,x9.2)
def rY (n:Nat) (a0:aI) (a1:cB) (a2:Int) (a3:Int):Option (Int × aI):=
 if a3 == 0 then
  some (a2,a0)
 else
  if decide (a1=([60,60]:cB)) then
   (aY n a0 18 a3 [a2]).bind λx3=>
   some (x3.1,x3.2)
  else
   if decide (a1=([62,62]:cB)) then
    (aY n a0 19 a3 [a2]).bind λx6=>
    some (x6.1,x6.2)
   else
    (aY n a0 20 (u32.wrap (32 - a3)) [a2]).bind λx8=>
    some (x8.1,x8.2)
def iA (n:Nat) (a0:aI) (a1:Int) (a2:Int) (a3:Int) (a4:Int):Option (Int × aI):=
 (aY n a0 18 a2 [a1]).bind λx1=>
 (aY n x1.2 19 a4 [a3]).bind λx3=>
 (aY n x3.2 8 0 [x1.1,x3.1]).bind λx4=>
 some (x4.1,x4.2)
def vW (n:Nat) (a0:aI) (a1:Int) (a2:Int) (a3:Int):Option (Int × Int × aI):=
 if decide (a3<32) then
  (iA n a0 a2 a3 a1 (u32.wrap (32 - a3))).bind λx2=>
  (aY n x2.2 18 a3 [a1]).bind λx4=>
  some (x4.1,x2.1,x4.2)
 else
  (rY n a0 ([60,60]:cB) a1 (u32.wrap (a3 - 32))).bind λx6=>
  (aY n x6.2 1 0 []).bind λx8=>
  some (x8.1,x6.1,x8.2)
def uA (n:Nat) (a0:aI) (a1:Int) (a2:Int) (a3:Int):Option (Int × Int × aI):=
 if decide (a3<32) then
  (aY n a0 19 a3 [a1]).bind λx2=>
  (aY n x2.2 18 (u32.wrap (32 - a3)) [a2]).bind λx4=>
  (aY n x4.2 8 0 [x2.1,x4.1]).bind λx5=>
  (aY n x5.2 19 a3 [a2]).bind λx8=>
  some (x5.1,x8.1,x8.2)
 else
  (rY n a0 ([62,62]:cB) a2 (u32.wrap (a3 - 32))).bind λx10=>
  (aY n x10.2 1 0 []).bind λx12=>
  some (x10.1,x12.1,x12.2)
def qV (n:Nat) (a0:aI) (a1:Int) (a2:Int) (a3:Int):Option (Int × Int × aI):=
 if decide (32<=a3) then
  if (u32.wrap (a3 - 32)) == 0 then
   some (a2,a1,a0)
  else
   (iA n a0 a1 (u32.wrap (a3 - 32)) a2 (u32.wrap (32 - (u32.wrap (a3 - 32))))).bind λx3=>
   (iA n x3.2 a2 (u32.wrap (a3 - 32)) a1 (u32.wrap (32 - (u32.wrap (a3 - 32))))).bind λx5=>
   some (x5.1,x3.1,x5.2)
 else
  if a3 == 0 then
   some (a1,a2,a0)
  else
   (iA n a0 a2 a3 a1 (u32.wrap (32 - a3))).bind λx8=>
   (iA n x8.2 a1 a3 a2 (u32.wrap (32 - a3))).bind λx10=>
   some (x10.1,x8.1,x10.2)
def mB (n:Nat) (a0:aI) (a1:Int) (a2:Int) (a3:Int):Option (Int × aI):=
 (aY n a0 9 0 [a2,a3]).bind λx1=>
 (aY n x1.2 7 0 [x1.1,a1]).bind λx3=>
 (aY n x3.2 9 0 [x3.1,a3]).bind λx4=>
 some (x4.1,x4.2)
@[go_sem] def Nf (a0:cB):Nat->Int->Option (Unit ⊕ Int)
 | 0,_=>none
 | c4+1,v2=>
   if decide (v2<8) then
    (aZ dR v2).bind λx9=>
    if decide (x9.GF=a0) then
     some (.inr x9.Wg)
    else
     Nf a0 c4 (i64.wrap (v2+1))
   else
    some (.inl ())
def EG (n:Nat) (a0:cB):Option Int:=
 (Nf a0 n 0).bind λy3=>
 y3.elim (λy3a=>
  some 0) (λy3a=>
  some y3a)
def uF (rR:aI->aB->Option (Int × aI)) (bD:aI->aB->Option (Int × aI)) (lA:aI->aB->Option (Int × aI)) (mM:aI->aB->Option (Int × aI)) (aU:aI->aB->Option (Int × Int × aI)) (oL:aI->aB->Option (Int × aI)) (n:Nat) (a0:aI) (a1:aB):Option (Int × aI):=
 (mA n a0 a1).bind λx2=>
 if x2.2=true then
  (aY n a0 1 x2.1 []).bind λx5=>
  some (x5.1,x5.2)
 else
  if decide (a1.dJ=([118,97,114]:cB)) then
   (aZ a0.x_.zS a1.fB).bind λx8=>
   (aY n a0 2 (u32.wrap x8) []).bind λx9=>
   some (x9.1,x9.2)
  else
   if decide (a1.dJ=([105,110,100,101,120]:cB)) then
    (rR a0 a1).bind λx16=>
    some (x16.1,x16.2)
   else
    if decide (a1.dJ=([110,111,116]:cB)) then
     (aZ a1.aN 0).bind λx19=>
     (bD a0 x19).bind λx20=>
     (aY n x20.2 16 0 [x20.1]).bind λx21=>
     some (x21.1,x21.2)
    else
     if decide (a1.dJ=([110,101,103]:cB)) then
      (aZ a1.aN 0).bind λx30=>
      (bD a0 x30).bind λx31=>
      (aY n x31.2 17 0 [x31.1]).bind λx32=>
      some (x32.1,x32.2)
     else
      if decide (a1.dJ=([60,60]:cB)) then
       (lA a0 a1).bind λx41=>
       some (x41.1,x41.2)
      else
       if decide (a1.dJ=([62,62]:cB)) then
        (lA a0 a1).bind λx44=>
        some (x44.1,x44.2)
       else
        if decide (a1.dJ=([60,60,60]:cB)) then
         (lA a0 a1).bind λx47=>
         some (x47.1,x47.2)
        else
         if decide (a1.dJ=([47]:cB)) then
          (mM a0 a1).bind λx50=>
          some (x50.1,x50.2)
         else
          if decide (a1.dJ=([37]:cB)) then
           (mM a0 a1).bind λx53=>
           some (x53.1,x53.2)
          else
           if decide (a1.dJ=([108,111]:cB)) then
            (aZ a1.aN 0).bind λx56=>
            (aU a0 x56).bind λx57=>
            some (x57.1,x57.2.2)
           else
            if decide (a1.dJ=([104,105]:cB)) then
             (aZ a1.aN 0).bind λx65=>
             (aU a0 x65).bind λx66=>
             some (x66.2.1,x66.2.2)
            else
             if decide (a1.dJ=([115,101,108,101,99,116]:cB)) then
              (aZ a1.aN 0).bind λx74=>
              (bD a0 x74).bind λx75=>
              (aY n x75.2 27 0 [x75.1]).bind λx76=>
              (aZ a1.aN 1).bind λx84=>
              (bD x76.2 x84).bind λx85=>
              (aZ a1.aN 2).bind λx86=>
              (bD x85.2 x86).bind λx87=>
              (mB n x87.2 x76.1 x85.1 x87.1).bind λx100=>
              some (x100.1,x100.2)
             else
              (aZ a1.aN 0).bind λx102=>
              if x102.bR == 3 then
               (oL a0 a1).bind λx109=>
               some (x109.1,x109.2)
              else
               (bD a0 x102).bind λx111=>
               (aZ a1.aN 1).bind λx112=>
               (bD x111.2 x112).bind λx113=>
               (EG n a1.dJ).bind λx121=>
               (aY n x113.2 x121 0 [x111.1,x113.1]).bind λx122=>
               some (x122.1,x122.2)
def uH (bD:aI->aB->Option (Int × aI)) (n:Nat) (a0:aI) (a1:aB):Option (Int × aI):=
 (aZ a1.aN 0).bind λx2=>
 (bD a0 x2).bind λx3=>
 (oF n x3.2 x2 x3.1 a1.fB).bind λx10=>
 (nD n x10 a1.fB).bind λx12=>
 (aY n x12.2 5 0 [x12.1,x3.1]).bind λx13=>
 some (x13.1,x13.2)
def tC (bD:aI->aB->Option (Int × aI)) (n:Nat) (a0:aI) (a1:aB):Option (Int × aI):=
 (aZ a1.aN 0).bind λx2=>
 (bD a0 x2).bind λx3=>
 (aZ a1.aN 1).bind λx10=>
 (mA n x3.2 x10).bind λx11=>
 if x11.2=true then
  (rY n x3.2 a1.dJ x3.1 (x11.1.tmod 32)).bind λx19=>
  some (x19.1,x19.2)
 else
  (bD x3.2 x10).bind λx21=>
  (aY n x21.2 1 31 []).bind λx23=>
  (aY n x23.2 7 0 [x21.1,x23.1]).bind λx24=>
  if decide (a1.dJ=([60,60]:cB)) then
   (aY n x24.2 13 0 [x3.1,x24.1]).bind λx28=>
   some (x28.1,x28.2)
  else
   if decide (a1.dJ=([62,62]:cB)) then
    (aY n x24.2 14 0 [x3.1,x24.1]).bind λx31=>
    some (x31.1,x31.2)
   else
    (aY n x24.2 1 32 []).bind λx33=>
    (aY n x33.2 11 0 [x33.1,x24.1]).bind λx34=>
    (aY n x34.2 15 0 [x3.1,x34.1]).bind λx35=>
    some (x35.1,x35.2)
def rW (bD:aI->aB->Option (Int × aI)) (n:Nat) (a0:aI) (a1:aB):Option (Int × aI):=
 (aZ a1.aN 0).bind λx2=>
 (bD a0 x2).bind λx3=>
 (aZ a1.aN 1).bind λx4=>
 (bD x3.2 x4).bind λx5=>
 (gO n x5.2.c_ x2).bind λx18=>
 (gO n x5.2.c_ x4).bind λx21=>
 (if x21.1.dJ != 1 then
    some true
   else
    some (x21.1.N_ == 0)).bind λy24=>
 if y24 then
  (fJ n x5.2 31 0 [x5.1]).bind λx30=>
  (jE x30.2 (bL.mk 2 x21.1 aF.Z 0)).bind λx32=>
  (aY n x32 28 0 [x3.1,x5.1]).bind λx34=>
  (jE x34.2 (bL.mk 3 x18.1 x21.1 0)).bind λx36=>
  if decide (a1.dJ=([37]:cB)) then
   (aY n x36 29 0 [x3.1,x34.1,x5.1]).bind λx39=>
   some (x39.1,x39.2)
  else
   some (x34.1,x36)
 else
  (aY n x5.2 28 0 [x3.1,x5.1]).bind λx41=>
  (jE x41.2 (bL.mk 3 x18.1 x21.1 0)).bind λx43=>
  if decide (a1.dJ=([37]:cB)) then
   (aY n x43 29 0 [x3.1,x41.1,x5.1]).bind λx46=>
   some (x46.1,x46.2)
  else
   some (x41.1,x43)
def uG (aU:aI->aB->Option (Int × Int × aI)) (nR:aI->aB->Option (Int × Int × aI)) (pZ:aI->Int->aB->Option (Int × Int × aI)) (lB:aI->aB->Option (Int × Int × aI)) (nQ:aI->aB->Option (Int × Int × aI)) (bD:aI->aB->Option (Int × aI)) (rT:aI->aB->Option (Int × Int × aI)) (n:Nat) (a0:aI) (a1:aB):Option (Int × Int × aI):=
 if decide (a1.dJ=([118,97,114]:cB)) then
  (aZ a0.x_.zS a1.fB).bind λx3=>
  (aY n a0 2 (u32.wrap x3) []).bind λx8=>
  (aY n x8.2 2 (u32.wrap ((u32.wrap x3)+4)) []).bind λx10=>
  some (x8.1,x10.1,x10.2)
 else
  if decide (a1.dJ=([110,111,116]:cB)) then
   (aZ a1.aN 0).bind λx13=>
   (aU a0 x13).bind λx14=>
   (aY n x14.2.2 16 0 [x14.1]).bind λx21=>
   (aY n x21.2 16 0 [x14.2.1]).bind λx23=>
   some (x21.1,x23.1,x23.2)
  else
   if decide (a1.dJ=([110,101,103]:cB)) then
    (nR a0 a1).bind λx26=>
    some (x26.1,x26.2.1,x26.2.2)
   else
    if decide (a1.dJ=([43]:cB)) then
     (pZ a0 23 a1).bind λx29=>
     some (x29.1,x29.2.1,x29.2.2)
    else
     if decide (a1.dJ=([45]:cB)) then
      (pZ a0 24 a1).bind λx32=>
      some (x32.1,x32.2.1,x32.2.2)
     else
      if decide (a1.dJ=([60,60]:cB)) then
       (lB a0 a1).bind λx35=>
       some (x35.1,x35.2.1,x35.2.2)
      else
       if decide (a1.dJ=([62,62]:cB)) then
        (lB a0 a1).bind λx38=>
        some (x38.1,x38.2.1,x38.2.2)
       else
        if decide (a1.dJ=([60,60,60]:cB)) then
         (lB a0 a1).bind λx41=>
         some (x41.1,x41.2.1,x41.2.2)
        else
         if decide (a1.dJ=([115,101,108,101,99,116]:cB)) then
          (nQ a0 a1).bind λx44=>
          some (x44.1,x44.2.1,x44.2.2)
         else
          if decide (a1.dJ=([108,111,110,103]:cB)) then
           (aZ a1.aN 0).bind λx47=>
           (bD a0 x47).bind λx48=>
           (aY n x48.2 1 0 []).bind λx55=>
           some (x48.1,x55.1,x55.2)
          else
           if decide (a1.dJ=([119,105,100,101]:cB)) then
            (aZ a1.aN 0).bind λx58=>
            (bD a0 x58).bind λx59=>
            (aZ a1.aN 1).bind λx60=>
            (bD x59.2 x60).bind λx61=>
            (fJ n x61.2 26 0 [x59.1,x61.1]).bind λx74=>
            (aZ x74.1 0).bind λx76=>
            (aZ x74.1 1).bind λx77=>
            some (x76,x77,x74.2)
           else
            (rT a0 a1).bind λx88=>
            some (x88.1,x88.2.1,x88.2.2)
def qO (aU:aI->aB->Option (Int × Int × aI)) (n:Nat) (a0:aI) (a1:aB):Option (Int × aI):=
 (aZ a1.aN 0).bind λx2=>
 (aU a0 x2).bind λx3=>
 (aZ a1.aN 1).bind λx10=>
 (aU x3.2.2 x10).bind λx11=>
 if decide (a1.dJ=([60]:cB)) then
  (aY n x11.2.2 25 0 [x3.1,x3.2.1,x11.1,x11.2.1]).bind λx19=>
  some (x19.1,x19.2)
 else
  (aY n x11.2.2 9 0 [x3.1,x11.1]).bind λx21=>
  (aY n x21.2 9 0 [x3.2.1,x11.2.1]).bind λx22=>
  (aY n x22.2 8 0 [x21.1,x22.1]).bind λx25=>
  (aY n x25.2 1 0 []).bind λx27=>
  (aY n x27.2 22 0 [x25.1,x27.1]).bind λx28=>
  some (x28.1,x28.2)
def pL (aU:aI->aB->Option (Int × Int × aI)) (n:Nat) (a0:aI) (a1:aB):Option (Int × Int × aI):=
 (aZ a1.aN 0).bind λx2=>
 (aU a0 x2).bind λx3=>
 (aY n x3.2.2 1 0 []).bind λx10=>
 (aY n x10.2 1 0 []).bind λx11=>
 (fJ n x11.2 24 0 [x10.1,x11.1,x3.1,x3.2.1]).bind λx14=>
 (aZ x14.1 0).bind λx16=>
 (aZ x14.1 1).bind λx17=>
 some (x16,x17,x14.2)
def sP (aU:aI->aB->Option (Int × Int × aI)) (n:Nat) (a0:aI) (a1:Int) (a2:aB):Option (Int × Int × aI):=
 (aZ a2.aN 0).bind λx2=>
 (aU a0 x2).bind λx3=>
 (aZ a2.aN 1).bind λx10=>
 (aU x3.2.2 x10).bind λx11=>
 (fJ n x11.2.2 a1 0 [x3.1,x3.2.1,x11.1,x11.2.1]).bind λx18=>
 (aZ x18.1 0).bind λx20=>
 (aZ x18.1 1).bind λx21=>
 some (x20,x21,x18.2)
def tD (aU:aI->aB->Option (Int × Int × aI)) (n:Nat) (a0:aI) (a1:aB):Option (Int × Int × aI):=
 (aZ a1.aN 0).bind λx2=>
 (aU a0 x2).bind λx3=>
 (aZ a1.aN 1).bind λx10=>
 if x10.N_ == 0 then
  some (x3.1,x3.2.1,x3.2.2)
 else
  if decide (a1.dJ=([60,60]:cB)) then
   (vW n x3.2.2 x3.1 x3.2.1 x10.N_).bind λx18=>
   some (x18.1,x18.2.1,x18.2.2)
  else
   if decide (a1.dJ=([62,62]:cB)) then
    (uA n x3.2.2 x3.1 x3.2.1 x10.N_).bind λx21=>
    some (x21.1,x21.2.1,x21.2.2)
   else
    (qV n x3.2.2 x3.1 x3.2.1 x10.N_).bind λx23=>
    some (x23.1,x23.2.1,x23.2.2)
def pK (bD:aI->aB->Option (Int × aI)) (aU:aI->aB->Option (Int × Int × aI)) (n:Nat) (a0:aI) (a1:aB):Option (Int × Int × aI):=
 (aZ a1.aN 0).bind λx2=>
 (bD a0 x2).bind λx3=>
 (aY n x3.2 27 0 [x3.1]).bind λx4=>
 (aZ a1.aN 1).bind λx12=>
 (aU x4.2 x12).bind λx13=>
 (aZ a1.aN 2).bind λx20=>
 (aU x13.2.2 x20).bind λx21=>
 (mB n x21.2.2 x4.1 x13.1 x21.1).bind λx28=>
 (mB n x28.2 x4.1 x13.2.1 x21.2.1).bind λx30=>
 some (x28.1,x30.1,x30.2)
def uI (aU:aI->aB->Option (Int × Int × aI)) (n:Nat) (a0:aI) (a1:aB):Option (Int × Int × aI):=
 (aZ a1.aN 0).bind λx2=>
 (aU a0 x2).bind λx3=>
 (aZ a1.aN 1).bind λx10=>
 (aU x3.2.2 x10).bind λx11=>
 (EG n a1.dJ).bind λx18=>
 (aY n x11.2.2 x18 0 [x3.1,x11.1]).bind λx19=>
 (EG n a1.dJ).bind λx22=>
 (aY n x19.2 x22 0 [x3.2.1,x11.2.1]).bind λx23=>
 some (x19.1,x23.1,x23.2)
def bE:Nat->(aI->aB->Option (Int × aI)) × (aI->aB->Option (Int × aI)) × (aI->aB->Option (Int × aI)) × (aI->aB->Option (Int × aI)) × (aI->aB->Option (Int × Int × aI)) × (aI->aB->Option (Int × aI)) × (aI->aB->Option (Int × Int × aI)) × (aI->Int->aB->Option (Int × Int × aI)) × (aI->aB->Option (Int × Int × aI)) × (aI->aB->Option (Int × Int × aI)) × (aI->aB->Option (Int × Int × aI))
 | 0=>(λ_ _=>none,λ_ _=>none,λ_ _=>none,λ_ _=>none,λ_ _=>none,λ_ _=>none,λ_ _=>none,λ_ _ _=>none,λ_ _=>none,λ_ _=>none,λ_ _=>none)
 | n+1=>(uF (bE n).2.1 (bE n).1 (bE n).2.2.1 (bE n).2.2.2.1 (bE n).2.2.2.2.1 (bE n).2.2.2.2.2.1 n,uH (bE n).1 n,tC (bE n).1 n,rW (bE n).1 n,uG (bE n).2.2.2.2.1 (bE n).2.2.2.2.2.2.1 (bE n).2.2.2.2.2.2.2.1 (bE n).2.2.2.2.2.2.2.2.1 (bE n).2.2.2.2.2.2.2.2.2.1 (bE n).1 (bE n).2.2.2.2.2.2.2.2.2.2 n,qO (bE n).2.2.2.2.1 n,pL (bE n).2.2.2.2.1 n,sP (bE n).2.2.2.2.1 n,tD (bE n).2.2.2.2.1 n,pK (bE n).1 (bE n).2.2.2.2.1 n,uI (bE n).2.2.2.2.1 n)
def kV (n:Nat):aI->aB->Option (Int × aI):=(bE n).1
def My (n:Nat):aI->aB->Option (Int × aI):=(bE n).2.1
def LI (n:Nat):aI->aB->Option (Int × aI):=(bE n).2.2.1
def KU (n:Nat):aI->aB->Option (Int × aI):=(bE n).2.2.2.1
def vX (n:Nat):aI->aB->Option (Int × Int × aI):=(bE n).2.2.2.2.1
def Kx (n:Nat):aI->aB->Option (Int × aI):=(bE n).2.2.2.2.2.1
def Jq (n:Nat):aI->aB->Option (Int × Int × aI):=(bE n).2.2.2.2.2.2.1
def Nt (n:Nat):aI->Int->aB->Option (Int × Int × aI):=(bE n).2.2.2.2.2.2.2.1
def LL (n:Nat):aI->aB->Option (Int × Int × aI):=(bE n).2.2.2.2.2.2.2.2.1
def Jp (n:Nat):aI->aB->Option (Int × Int × aI):=(bE n).2.2.2.2.2.2.2.2.2.1
def Mz (n:Nat):aI->aB->Option (Int × Int × aI):=(bE n).2.2.2.2.2.2.2.2.2.2
def kN (a0:aL) (a1:Int):Option Int:=
 (if decide (a1<0) then
    some true
   else
    if decide ((a0.aX.length:Int)<=a1) then
     some true
    else
     (aZ a0.aX a1).bind λx5=>
     some (x5.dJ != 2)).bind λy2=>
 if y2 then
  some (-1:Int)
 else
  (aZ a0.aX a1).bind λx14=>
  (if decide ((i64.wrap x14.N_)<4) then
     if (i64.wrap x14.N_) == a1 then
      some true
     else
      if decide (4<=(i64.wrap x14.N_)) then
       if decide ((i64.wrap ((i64.wrap x14.N_) - 4))<(a0.gM.length:Int)) then
        (aZ a0.gM (i64.wrap ((i64.wrap x14.N_) - 4))).bind λx24=>
        some (x24 == a1)
       else
        some false
      else
       some false
    else
     if decide (4<=(i64.wrap x14.N_)) then
      if decide ((i64.wrap ((i64.wrap x14.N_) - 4))<(a0.gM.length:Int)) then
       (aZ a0.gM (i64.wrap ((i64.wrap x14.N_) - 4))).bind λx31=>
       some (x31 == a1)
      else
       some false
     else
      some false).bind λy19=>
  if y19 then
   some (i64.wrap x14.N_)
  else
   some (-1:Int)
def jX (n:Nat) (a0:aI) (a1:Int) (a2:Int):Option aI:=
 (fJ n a0 3 (u32.wrap a1) [a2]).bind λx1=>
 some x1.2
def kD (n:Nat) (a0:aI) (a1:aB) (a2:Int):Option aI:=
 if a1.bR == 3 then
  (vX n a0 a1).bind λx3=>
  (jX n x3.2.2 a2 x3.1).bind λx5=>
  (jX n x5 (i64.wrap (a2+4)) x3.2.1).bind λx7=>
  some x7
 else
  (kV n a0 a1).bind λx9=>
  (jX n x9.2 a2 x9.1).bind λx10=>
  some x10
@[go_sem] def vN (n:Nat) (x59:aK) (a1:aA) (x57:(Int × aI)):Nat->Int->aI->Option aI
 | 0,_,_=>none
 | c68+1,v65,v66=>
   if decide (v65<x59.jR) then
    (aZ v66.x_.zS a1.fB).bind λx73=>
    (jX n v66 (i64.wrap (x73+(i64.wrap (4*v65)))) x57.1).bind λx74=>
    vN n x59 a1 x57 c68 (i64.wrap (v65+1)) x74
   else
    some v66
def qW (n:Nat) (a0:aI) (a1:aA):Option aI:=
 if decide (a1.dJ=([108,101,116]:cB)) then
  (aZ a0.x_.zS a1.fB).bind λx3=>
  if decide (0<=x3) then
   (aZ a1.aN 0).bind λx9=>
   (kD n a0 x9 x3).bind λx10=>
   some x10
  else
   some a0
 else
  if decide (a1.dJ=([118,97,114]:cB)) then
   (aZ a0.x_.zS a1.fB).bind λx18=>
   if decide (0<=x18) then
    (aZ a1.aN 0).bind λx24=>
    (kD n a0 x24 x18).bind λx25=>
    some x25
   else
    some a0
  else
   if decide (a1.dJ=([115,101,116]:cB)) then
    (aZ a0.x_.zS a1.fB).bind λx33=>
    if decide (0<=x33) then
     (aZ a1.aN 0).bind λx39=>
     (kD n a0 x39 x33).bind λx40=>
     some x40
    else
     some a0
   else
    if decide (a1.dJ=([114,101,116,117,114,110]:cB)) then
     (aZ a1.aN 0).bind λx48=>
     (kD n a0 x48 a0.x_.bO).bind λx49=>
     some x49
    else
     if decide (a1.dJ=([97,114,114]:cB)) then
      (aY n a0 1 0 []).bind λx57=>
      (aZ x57.2.f_.aQ a1.fB).bind λx59=>
      (vN n x59 a1 x57 n 0 x57.2).bind λy67=>
      some y67
     else
      if decide (a1.dJ=([112,117,116]:cB)) then
       (aZ a1.aN 0).bind λx81=>
       (kV n a0 x81).bind λx82=>
       (oF n x82.2 x81 x82.1 a1.fB).bind λx89=>
       (aZ a1.aN 1).bind λx91=>
       (kV n x89 x91).bind λx92=>
       (nD n x92.2 a1.fB).bind λx99=>
       (fJ n x99.2 6 0 [x99.1,x82.1,x92.1]).bind λx100=>
       some x100.2
      else
       some a0
@[go_sem] def jK (jH:aI->aA->Option ((List bB) × aI)) (jG:aI->aA->Option (bB × aI)) (n:Nat) (a1:(List aA)):Nat->(List bB)->Int->aI->Option (((List bB) × aI) ⊕ ((List bB) × aI))
 | 0,_,_,_=>none
 | c6+1,v2,v3,v4=>
   if decide (v3<(a1.length:Int)) then
    ((aZ a1 v3).bind λx12=>
      if v4.e_ != 0 then
       some (.inr ([],v4))
      else
       if decide (x12.dJ=([105,102]:cB)) then
        (jH v4 x12).bind λx20=>
        iN (v2.length+x20.1.length<=1073741824) <|
        some (.inl ((v2++x20.1),x20.2))
       else
        if decide (x12.dJ=([102,111,114]:cB)) then
         (jG v4 x12).bind λx25=>
         iN (v2.length+[x25.1].length<=1073741824) <|
         some (.inl ((v2++[x25.1]),x25.2))
        else
         (kE v4).bind λx30=>
         (qW n x30 x12).bind λx32=>
         if decide (0<(x32.p_.iH.length:Int)) then
          iN (v2.length+[(bB.mk 1 x32.p_ cU.Z cU.Z aF.Z aF.Z aF.Z 0 [] [])].length<=1073741824) <|
          some (.inl ((v2++[(bB.mk 1 x32.p_ cU.Z cU.Z aF.Z aF.Z aF.Z 0 [] [])]),x32))
         else
          some (.inl (v2,x32)):Option (((List bB) × aI) ⊕ ((List bB) × aI))).bind λy11=>
    y11.elim (λy11a=>
     jK jH jG n a1 c6 y11a.1 (i64.wrap (v3+1)) y11a.2) (λy11a=>
     some (.inr y11a))
   else
    some (.inl (v2,v4))
def tE (jH:aI->aA->Option ((List bB) × aI)) (jG:aI->aA->Option (bB × aI)) (n:Nat) (a0:aI) (a1:(List aA)):Option ((List bB) × aI):=
 (jK jH jG n a1 n [] 0 a0).bind λy5=>
 y5.elim (λy5a=>
  some (y5a.1,y5a.2)) (λy5a=>
  some y5a)
def rX (eF:aI->(List aA)->Option ((List bB) × aI)) (n:Nat) (a0:aI) (a1:aA):Option ((List bB) × aI):=
 (aZ a1.aN 0).bind λx2=>
 (gO n a0.c_ x2).bind λx3=>
 if x3.1.dJ == 1 then
  if x3.1.N_ != 0 then
   (eF a0 a1.bH).bind λx13=>
   some (x13.1,x13.2)
  else
   (eF a0 a1.eG).bind λx15=>
   some (x15.1,x15.2)
 else
  (kE a0).bind λx17=>
  (kV n x17 x2).bind λx19=>
  (fJ n x19.2 31 0 [x19.1]).bind λx20=>
  (eF x20.2 a1.bH).bind λx24=>
  (eF x24.2 a1.eG).bind λx25=>
  some ([(bB.mk 2 x20.2.p_ (cU.mk [] []) (cU.mk [] []) x3.1 (aF.mk 0 0 []) (aF.mk 0 0 []) 0 x24.1 x25.1)],x25.2)
def rU (eF:aI->(List aA)->Option ((List bB) × aI)) (n:Nat) (a0:aI) (a1:aA):Option (bB × aI):=
 (kN a0.c_ a1.fB).bind λx3=>
 (aZ a1.aN 0).bind λx6=>
 (gO n a0.c_ x6).bind λx7=>
 (aZ a1.aN 1).bind λx14=>
 (gO n a0.c_ x14).bind λx15=>
 (aZ a0.x_.zS a1.fB).bind λx22=>
 (aZ a0.x_.xQ (i64.wrap (x3 - 4))).bind λx23=>
 (kE a0).bind λx32=>
 (kV n x32 x6).bind λx34=>
 (kV n x34.2 x14).bind λx35=>
 (jX n x35.2 x22 x34.1).bind λx38=>
 (jX n x38 x23 x35.1).bind λx40=>
 (kE x40).bind λx42=>
 (aY n x42 2 (u32.wrap x22) []).bind λx44=>
 (aY n x44.2 2 (u32.wrap x23) []).bind λx45=>
 (aY n x45.2 21 0 [x44.1,x45.1]).bind λx48=>
 (fJ n x48.2 31 0 [x48.1]).bind λx49=>
 (kE x49.2).bind λx52=>
 (aY n x52 2 (u32.wrap x22) []).bind λx54=>
 (aY n x54.2 1 1 []).bind λx55=>
 (aY n x55.2 10 0 [x54.1,x55.1]).bind λx58=>
 (jX n x58.2 x22 x58.1).bind λx59=>
 (eF x59 a1.bH).bind λx62=>
 some ((bB.mk 3 x40.p_ x49.2.p_ x59.p_ (aF.mk 0 0 []) x7.1 x15.1 x3 x62.1 []),x62.2)
def lE:Nat->(aI->(List aA)->Option ((List bB) × aI)) × (aI->aA->Option ((List bB) × aI)) × (aI->aA->Option (bB × aI))
 | 0=>(λ_ _=>none,λ_ _=>none,λ_ _=>none)
 | n+1=>(tE (lE n).2.1 (lE n).2.2 n,rX (lE n).1 n,rU (lE n).1 n)
def pM (n:Nat):aI->(List aA)->Option ((List bB) × aI):=(lE n).1
def kI (n:Nat):aI->aA->Option ((List bB) × aI):=(lE n).2.1
def lZ (n:Nat):aI->aA->Option (bB × aI):=(lE n).2.2
def DN (n:Nat) (a0:aJ) (a1:aL) (a2:aP):Option ((List bB) × Int):=
 (pM n (aI.mk a0 a1 a2 (cU.mk [] []) 0 0 0) a0.bH).bind λx5=>
 if x5.2.e_ != 0 then
  some ([],x5.2.e_)
 else
  some (x5.1,0)
def oE (n:Nat) (a0:cB) (a1:Int):Option (dP × Bool):=
 if decide (2000<(a0.length:Int)) then
  some ((dP.mk (aJ.mk [] false 0 0 [] []) (aL.mk [] [] [] []) (aP.mk [] [] 0 0) []),false)
 else
  (Ay n a0).bind λx3=>
  if x3.2.1 != 0 then
   some ((dP.mk (aJ.mk [] false 0 0 [] []) (aL.mk [] [] [] []) (aP.mk [] [] 0 0) []),false)
  else
   (xK n x3.1 a1).bind λx7=>
   if x7.2 != 0 then
    some ((dP.mk (aJ.mk [] false 0 0 [] []) (aL.mk [] [] [] []) (aP.mk [] [] 0 0) []),false)
   else
    (wT n x7.1).bind λx11=>
    if x11.2 != 0 then
     some ((dP.mk (aJ.mk [] false 0 0 [] []) (aL.mk [] [] [] []) (aP.mk [] [] 0 0) []),false)
    else
     (DO n x7.1 x11.1).bind λx15=>
     if x15.2 != 0 then
      some ((dP.mk (aJ.mk [] false 0 0 [] []) (aL.mk [] [] [] []) (aP.mk [] [] 0 0) []),false)
     else
      (DN n x7.1 x11.1 x15.1).bind λx19=>
      some ((dP.mk x7.1 x11.1 x15.1 x19.1),(x19.2 == 0))
@[go_sem] def LQ (rL:(List bB)->Option Int) (a0:(List bB)):Nat->Int->Int->Option Int
 | 0,_,_=>none
 | c5+1,v2,v3=>
   if decide (v3<(a0.length:Int)) then
    (aZ a0 v3).bind λx10=>
    (rL x10.bH).bind λx16=>
    (rL x10.eG).bind λx17=>
    LQ rL a0 c5 (i64.wrap (v2+(i64.wrap ((i64.wrap ((i64.wrap ((i64.wrap ((x10.JQ.iH.length:Int)+(x10.Rc.iH.length:Int)))+(x10.Rb.iH.length:Int)))+x16))+x17)))) (i64.wrap (v3+1))
   else
    some v2
def JC (rL:(List bB)->Option Int) (n:Nat) (a0:(List bB)):Option Int:=
 (LQ rL a0 n 0 0).bind λy4=>
 some y4
def Kc:Nat->(List bB)->Option Int
 | 0=>λ_=>none
 | n+1=>JC (Kc n) n
def mT:List Int:=[2,1,10,3]
@[go_sem] def yP (x1:(dP × Bool)):Nat->Int->Option (Unit ⊕ Bool)
 | 0,_=>none
 | c23+1,v21=>
   if decide (v21<4) then
    (aZ mT v21).bind λx28=>
    (aZ x1.1.l_ 0).bind λx37=>
    (aZ x37.JQ.iH v21).bind λx38=>
    if x38.bJ != x28 then
     some (.inr false)
    else
     yP x1 c23 (i64.wrap (v21+1))
   else
    some (.inl ())
def mL (n:Nat):Option Bool:=
 (oE n ([102,110,32,102,40,120,58,32,117,51,50,41,32,123,32,120,32,61,32,120,32,43,32,49,59,32,125]:cB) 0).bind λx1=>
 (if !x1.2 then
    some true
   else
    if (x1.1.l_.length:Int) != 1 then
     some true
    else
     (aZ x1.1.l_ 0).bind λx7=>
     if (x7.JQ.iH.length:Int) != 4 then
      some true
     else
      (Kc n x1.1.l_).bind λx14=>
      some (x14 != 4)).bind λy4=>
 if y4 then
  some false
 else
  (yP x1 n 0).bind λy22=>
  y22.elim (λy22a=>
   some true) (λy22a=>
   some y22a)
def BN (a0:Int):Option Int:=
 if decide (a0<=2) then
  some 0
 else
  if decide (a0<=4) then
   some 1
  else
   some 2
def yX (dQ:(List aF)->Option Bool) (n:Nat) (a0:aF):Option Bool:=
 (if decide (a0.dJ<1) then
    some true
   else
    if decide (17<a0.dJ) then
     some true
    else
     (BN a0.dJ).bind λx5=>
     if (a0.aN.length:Int) != x5 then
      some true
     else
      if decide (2<a0.dJ) then
       if a0.N_ != 0 then
        some true
       else
        if a0.dJ == 2 then
         some (decide (255<a0.N_))
        else
         some false
      else
       if a0.dJ == 2 then
        some (decide (255<a0.N_))
       else
        some false).bind λy2=>
 if y2 then
  some false
 else
  (dQ a0.aN).bind λx16=>
  some (!x16)
def dU (dX:(List aF)->Option Int) (n:Nat) (a0:(List aF)):Option Bool:=
 (dX a0).bind λx1=>
 some (decide (0<=x1))
def uW (xA:aF->Option Bool) (n:Nat) (a0:aF):Option Bool:=
 (xA a0).bind λx2=>
 some (!x2)
@[go_sem] def fF (nH:aF->Option Bool) (a0:(List aF)):Nat->Int->Option (Unit ⊕ Int)
 | 0,_=>none
 | c4+1,v2=>
   if decide (v2<(a0.length:Int)) then
    (aZ a0 v2).bind λx9=>
    (nH x9).bind λx10=>
    if x10 then
     some (.inr v2)
    else
     fF nH a0 c4 (i64.wrap (v2+1))
   else
    some (.inl ())
def eB (nH:aF->Option Bool) (n:Nat) (a0:(List aF)):Option Int:=
 (fF nH a0 n 0).bind λy3=>
 y3.elim (λy3a=>
  some (-1:Int)) (λy3a=>
  some y3a)
def fD:Nat->(aF->Option Bool) × ((List aF)->Option Bool) × (aF->Option Bool) × ((List aF)->Option Int)
 | 0=>(λ_=>none,λ_=>none,λ_=>none,λ_=>none)
 | n+1=>(yX (fD n).2.1 n,dU (fD n).2.2.2 n,uW (fD n).1 n,eB (fD n).2.2.1 n)
def Fv (n:Nat):aF->Option Bool:=(fD n).1
def tZ (n:Nat):(List aF)->Option Bool:=(fD n).2.1
def PL (n:Nat):aF->Option Bool:=(fD n).2.2.1
def uQ (n:Nat):(List aF)->Option Int:=(fD n).2.2.2
def kP (n:Nat) (a0:aF):Option Bool:=
 ((xY n a0).bind λx3=>
   if decide (x3<=16384) then
    (Fv n a0).bind λx6=>
    some x6
   else
    some false).bind λy2=>
 some y2
@[go_sem] def rJ (a1:(List Int)) (a0:aF):Nat->Int->Option (Unit ⊕ Bool)
 | 0,_=>none
 | c6+1,v4=>
   if decide (v4<(a1.length:Int)) then
    (aZ a1 v4).bind λx11=>
    if x11 == (i64.wrap a0.N_) then
     some (.inr true)
    else
     rJ a1 a0 c6 (i64.wrap (v4+1))
   else
    some (.inl ())
@[go_sem] def rH (iC:aF->(List Int)->Option Bool) (a0:aF) (a1:(List Int)):Nat->Int->Option (Unit ⊕ Bool)
 | 0,_=>none
 | c20+1,v18=>
   if decide (v18<(a0.aN.length:Int)) then
    (aZ a0.aN v18).bind λx25=>
    (iC x25 a1).bind λx31=>
    if !x31 then
     some (.inr false)
    else
     rH iC a0 a1 c20 (i64.wrap (v18+1))
   else
    some (.inl ())
def gY (iC:aF->(List Int)->Option Bool) (n:Nat) (a0:aF) (a1:(List Int)):Option Bool:=
 if a0.dJ == 2 then
  (rJ a1 a0 n 0).bind λy5=>
  y5.elim (λy5a=>
   some false) (λy5a=>
   some y5a)
 else
  (rH iC a0 a1 n 0).bind λy19=>
  y19.elim (λy19a=>
   some true) (λy19a=>
   some y19a)
def dF:Nat->aF->(List Int)->Option Bool
 | 0=>λ_ _=>none
 | n+1=>gY (dF n) n
@[go_sem] def rG (n:Nat) (x24:cU) (a1:(List Int)):Nat->Int->Option (Unit ⊕ Bool)
 | 0,_=>none
 | c37+1,v35=>
   if decide (v35<(x24.cO.length:Int)) then
    (aZ x24.cO v35).bind λx42=>
    ((kP n x42.A_).bind λx49=>
      if !x49 then
       some true
      else
       (dF n x42.A_ a1).bind λx52=>
       if !x52 then
        some true
       else
        if x42.bJ == 3 then
         (kP n x42.B_).bind λx56=>
         if !x56 then
          some true
         else
          (dF n x42.B_ a1).bind λx59=>
          some (!x59)
        else
         some false).bind λy48=>
    if y48 then
     some (.inr false)
    else
     rG n x24 a1 c37 (i64.wrap (v35+1))
   else
    some (.inl ())
@[go_sem] def nO (n:Nat) (x10:bB) (a1:(List Int)):Nat->Int->Option (Unit ⊕ Bool)
 | 0,_=>none
 | c19+1,v17=>
   if decide (v17<3) then
    (aZ [x10.JQ,x10.Rc,x10.Rb] v17).bind λx24=>
    (rG n x24 a1 n 0).bind λy36=>
    y36.elim (λy36a=>
     nO n x10 a1 c19 (i64.wrap (v17+1))) (λy36a=>
     some (.inr y36a))
   else
    some (.inl ())
@[go_sem] def jN (dO:(List bB)->(List Int)->Option Bool) (n:Nat) (a0:(List bB)) (a1:(List Int)):Nat->Int->Option (Unit ⊕ Bool)
 | 0,_=>none
 | c4+1,v2=>
   if decide (v2<(a0.length:Int)) then
    ((aZ a0 v2).bind λx10=>
      (nO n x10 a1 n 0).bind λy18=>
      y18.elim (λy18a=>
       if x10.bJ == 2 then
        ((kP n x10.WN).bind λx137=>
          if !x137 then
           some true
          else
           (dF n x10.WN a1).bind λx140=>
           if !x140 then
            some true
           else
            some (x10.WN.dJ == 1)).bind λy136=>
        if y136 then
         some (.inr false)
        else
         ((dO x10.bH a1).bind λx148=>
           if !x148 then
            some true
           else
            (dO x10.eG a1).bind λx151=>
            some (!x151)).bind λy147=>
         if y147 then
          some (.inr false)
         else
          some (.inl ())
       else
        if x10.bJ == 3 then
         ((kP n x10.tK).bind λx159=>
           if !x159 then
            some true
           else
            (kP n x10.kZ).bind λx162=>
            if !x162 then
             some true
            else
             (dF n x10.tK a1).bind λx165=>
             if !x165 then
              some true
             else
              (dF n x10.kZ a1).bind λx168=>
              if !x168 then
               some true
              else
               if decide (x10.QT<4) then
                some true
               else
                (Cc x10.QT).bind λx172=>
                (dF n x172 a1).bind λx173=>
                some x173).bind λy158=>
         if y158 then
          some (.inr false)
         else
          iN (a1.length<=1073741824) <|
          iN (a1.length+[x10.QT].length<=1073741824) <|
          ((dO x10.bH (a1++[x10.QT])).bind λx186=>
            if !x186 then
             some true
            else
             (dO x10.eG (a1++[x10.QT])).bind λx189=>
             some (!x189)).bind λy185=>
          if y185 then
           some (.inr false)
          else
           some (.inl ())
        else
         ((dO x10.bH a1).bind λx196=>
           if !x196 then
            some true
           else
            (dO x10.eG a1).bind λx199=>
            some (!x199)).bind λy195=>
         if y195 then
          some (.inr false)
         else
          some (.inl ())) (λy18a=>
       some (.inr y18a)):Option (Unit ⊕ Bool)).bind λy9=>
    y9.elim (λy9a=>
     jN dO n a0 a1 c4 (i64.wrap (v2+1))) (λy9a=>
     some (.inr y9a))
   else
    some (.inl ())
def oH (dO:(List bB)->(List Int)->Option Bool) (n:Nat) (a0:(List bB)) (a1:(List Int)):Option Bool:=
 (jN dO n a0 a1 n 0).bind λy3=>
 y3.elim (λy3a=>
  some true) (λy3a=>
  some y3a)
def fX:Nat->(List bB)->(List Int)->Option Bool
 | 0=>λ_ _=>none
 | n+1=>oH (fX n) n
def nP (n:Nat) (a0:cB) (a1:Int):Option Bool:=
 (mL n).bind λx1=>
 if !x1 then
  some false
 else
  (oE n a0 a1).bind λx4=>
  if !x4.2 then
   some true
  else
   (fX n x4.1.l_ [0,1,2,3]).bind λx8=>
   some x8
