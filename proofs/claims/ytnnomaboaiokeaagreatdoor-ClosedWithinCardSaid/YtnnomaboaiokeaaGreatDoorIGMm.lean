import Derived.Test.YtnnomaboaiokeaaGreatDoorIS3
namespace Go.Proofs.YtnnomaboaiokeaaGreatDoor.Abs
open IntKind (i64 u32 u64 u8)
open Go.RowKit
set_option linter.all false
structure bW where
 BI:Int
 qN:Int
def bW.C (x:bW):List V:=[.lit (.int .u32 x.BI),.lit (.int .u32 x.qN)]
@[go_sem] theorem bW.C_eq (x:bW):bW.C x=[.lit (.int .u32 x.BI),.lit (.int .u32 x.qN)]:=rI rfl
structure bJ where
 Qh:cF
 QB:Int
def bJ.C (x:bJ):List V:=[.lit (.string (bs x.Qh)),.lit (.int .i64 x.QB)]
@[go_sem] theorem bJ.C_eq (x:bJ):bJ.C x=[.lit (.string (bs x.Qh)),.lit (.int .i64 x.QB)]:=rI rfl
structure bY where
 IA:cF
 op_:Int
def bY.C (x:bY):List V:=[.lit (.string (bs x.IA)),.lit (.int .i64 x.op_)]
@[go_sem] theorem bY.C_eq (x:bY):bY.C x=[.lit (.string (bs x.IA)),.lit (.int .i64 x.op_)]:=rI rfl
structure dE where
 bS:Int
 eU:Int
 cX:cF
 oM:Int
def dE.C (x:dE):List V:=[.lit (.int .i64 x.bS),.lit (.int .i64 x.eU),.lit (.string (bs x.cX)),.lit (.int .u32 x.oM)]
@[go_sem] theorem dE.C_eq (x:dE):dE.C x=[.lit (.int .i64 x.bS),.lit (.int .i64 x.eU),.lit (.string (bs x.cX)),.lit (.int .u32 x.oM)]:=rI rfl
structure aD where
 bS:Int
 eU:Int
 cX:cF
 oM:Int
 aO:(List aD)
mutual
def aD.C:aD->List V
 | ⟨a0,a1,a2,a3,a4⟩=>[.lit (.int .i64 a0),.lit (.int .i64 a1),.lit (.string (bs a2)),.lit (.int .u32 a3),.list .none (aD.CL a4)]
def aD.CL:List aD->List (List V)
 | []=>[]
 | x::l=>aD.C x::aD.CL l
end
theorem aD.CL_eq (l:List aD):aD.CL l=l.map aD.C:=by
 induction l with
 | nil=>rfl
 | cons x l ih=>rw [aD.CL,ih];rfl
@[go_sem] theorem aD.C_eq (x:aD):aD.C x=[.lit (.int .i64 x.bS),.lit (.int .i64 x.eU),.lit (.string (bs x.cX)),.lit (.int .u32 x.oM),.list .none (x.aO.map aD.C)]:=by
 cases x;simp only [aD.C,aD.CL_eq]
structure aE where
 l_:(List dE)
 fW:Int
 zP:Int
 e_:Int
 CV:Int
def aE.C (x:aE):List V:=[.list .none (x.l_.map dE.C),.lit (.int .i64 x.fW),.lit (.int .i64 x.zP),.lit (.int .i64 x.e_),.lit (.int .i64 x.CV)]
@[go_sem] theorem aE.C_eq (x:aE):aE.C x=[.list .none (x.l_.map dE.C),.lit (.int .i64 x.fW),.lit (.int .i64 x.zP),.lit (.int .i64 x.e_),.lit (.int .i64 x.CV)]:=rI rfl
structure aL where
 fM:cF
 bS:Int
 qO:Int
def aL.C (x:aL):List V:=[.lit (.string (bs x.fM)),.lit (.int .i64 x.bS),.lit (.int .i64 x.qO)]
@[go_sem] theorem aL.C_eq (x:aL):aL.C x=[.lit (.string (bs x.fM)),.lit (.int .i64 x.bS),.lit (.int .i64 x.qO)]:=rI rfl
structure aF where
 fR:cF
 cK:Int
 N_:Int
 fI:Int
 aO:(List aF)
 eU:Int
mutual
def aF.C:aF->List V
 | ⟨a0,a1,a2,a3,a4,a5⟩=>[.lit (.string (bs a0)),.lit (.int .i64 a1),.lit (.int .u32 a2),.lit (.int .i64 a3),.list .none (aF.CL a4),.lit (.int .i64 a5)]
def aF.CL:List aF->List (List V)
 | []=>[]
 | x::l=>aF.C x::aF.CL l
end
theorem aF.CL_eq (l:List aF):aF.CL l=l.map aF.C:=by
 induction l with
 | nil=>rfl
 | cons x l ih=>rw [aF.CL,ih];rfl
@[go_sem] theorem aF.C_eq (x:aF):aF.C x=[.lit (.string (bs x.fR)),.lit (.int .i64 x.cK),.lit (.int .u32 x.N_),.lit (.int .i64 x.fI),.list .none (x.aO.map aF.C),.lit (.int .i64 x.eU)]:=by
 cases x;simp only [aF.C,aF.CL_eq]
structure aB where
 fR:cF
 fI:Int
 gJ:Int
 aO:(List aF)
 bQ:(List aB)
 eW:(List aB)
 eU:Int
mutual
def aB.C:aB->List V
 | ⟨a0,a1,a2,a3,a4,a5,a6⟩=>[.lit (.string (bs a0)),.lit (.int .i64 a1),.lit (.int .i64 a2),.list .none (a3.map aF.C),.list .none (aB.CL a4),.list .none (aB.CL a5),.lit (.int .i64 a6)]
def aB.CL:List aB->List (List V)
 | []=>[]
 | x::l=>aB.C x::aB.CL l
end
theorem aB.CL_eq (l:List aB):aB.CL l=l.map aB.C:=by
 induction l with
 | nil=>rfl
 | cons x l ih=>rw [aB.CL,ih];rfl
@[go_sem] theorem aB.C_eq (x:aB):aB.C x=[.lit (.string (bs x.fR)),.lit (.int .i64 x.fI),.lit (.int .i64 x.gJ),.list .none (x.aO.map aF.C),.list .none (x.bQ.map aB.C),.list .none (x.eW.map aB.C),.lit (.int .i64 x.eU)]:=by
 cases x;simp only [aB.C,aB.CL_eq]
structure aT where
 fM:cF
 dF:Bool
 bX:Int
 bC:Int
 aX:(List aL)
 bQ:(List aB)
def aT.C (x:aT):List V:=[.lit (.string (bs x.fM)),.lit (.bool x.dF),.lit (.int .i64 x.bX),.lit (.int .i64 x.bC),.list .none (x.aX.map aL.C),.list .none (x.bQ.map aB.C)]
@[go_sem] theorem aT.C_eq (x:aT):aT.C x=[.lit (.string (bs x.fM)),.lit (.bool x.dF),.lit (.int .i64 x.bX),.lit (.int .i64 x.bC),.list .none (x.aX.map aL.C),.list .none (x.bQ.map aB.C)]:=rI rfl
structure bH where
 bF:(List aT)
def bH.C (x:bH):List V:=[.list .none (x.bF.map aT.C)]
@[go_sem] theorem bH.C_eq (x:bH):bH.C x=[.list .none (x.bF.map aT.C)]:=rI rfl
def bH.Z:bH:=⟨[]⟩
structure aH where
 e_:Int
 CV:Int
structure aG where
 p_:bH
 f_:Int
 bI:List Int
 cC:List (List Int)
 fW:Int
def aG.Z:aG:=⟨bH.Z,-1,[],[],0⟩
def qK (F fp S C:V) (x:aG) (y:aH):List V:=[F,fp,S,C,.lit (.int .i64 x.fW),.lit (.int .i64 y.e_),.lit (.int .i64 y.CV)]
@[go_sem] theorem ckC_eq {F fp S C:V} {x:aG} {y:aH}:qK F fp S C x y=[F,fp,S,C,.lit (.int .i64 x.fW),.lit (.int .i64 y.e_),.lit (.int .i64 y.CV)]:=rI rfl
def eV:List cF:=[[45,62],[46,46],[61,61],[60,60,60],[60,60],[62,62],[60],[40],[41],[123],[125],[91],[93],[44],[59],[58],[61],[43],[45],[42],[47],[37],[38],[124],[94],[126]]
@[go_sem] theorem SO:(cA cS eV).length=26:=by kernel_rfl
@[go_sem] theorem RK:(cA cS eV).take 26=(cA cS eV):=by kernel_rfl
def cD:List cF:=[[102,110],[101,120,112,111,114,116],[108,101,116],[118,97,114],[97,114,114],[105,102],[101,108,115,101],[102,111,114],[105,110],[114,101,116,117,114,110],[112,117,98],[117,51,50],[117,54,52]]
@[go_sem] theorem Qp:(cA cS cD).length=13:=by kernel_rfl
@[go_sem] theorem OE:CG 1 13 (cA cS cD)=cD.map cS:=rI rfl
def cT:List (List cF):=[[[124],[],[]],[[94],[],[]],[[38],[],[]],[[61,61],[60],[]],[[60,60],[62,62],[60,60,60]],[[43],[45],[]],[[42],[47],[37]]]
def cL:List bJ:=[(bJ.mk [115,101,108,101,99,116] 3),(bJ.mk [108,111,110,103] 1),(bJ.mk [108,111] 1),(bJ.mk [104,105] 1),(bJ.mk [119,105,100,101] 2)]
@[go_sem] theorem Qr:(cA bJ.C cL).length=10:=by kernel_rfl
@[go_sem] theorem Pt:(cA bJ.C cL).take 10=(cA bJ.C cL):=by kernel_rfl
@[go_sem] theorem NW:(cA bJ.C cL).map V.shared=(cA bJ.C cL):=rI rfl
def dQ:List bY:=[(bY.mk [124] 5),(bY.mk [94] 6),(bY.mk [38] 7),(bY.mk [61,61] 8),(bY.mk [60] 9),(bY.mk [60,60] 10),(bY.mk [62,62] 11),(bY.mk [60,60,60] 12),(bY.mk [43] 13),(bY.mk [45] 14),(bY.mk [42] 15),(bY.mk [47] 16),(bY.mk [37] 17),(bY.mk [110,111,116] 3),(bY.mk [110,101,103] 4)]
@[go_sem] theorem RL:(cA bY.C dQ).length=30:=by kernel_rfl
@[go_sem] theorem Qq:(cA bY.C dQ).take 30=(cA bY.C dQ):=by kernel_rfl
@[go_sem] theorem OG:(cA bY.C dQ).map V.shared=(cA bY.C dQ):=rI rfl
def Bj (a0:Int):Option Bool:=
 (if a0 == 32 then
    some true
   else
    if a0 == 9 then
     some true
    else
     if a0 == 13 then
      some true
     else
      some (a0 == 10)).bind λy1=>
 some y1
def eX (a0:cF) (a1:cF):Option Bool:=
 (if decide ((a1.length:Int)<=(a0.length:Int)) then
    gY (0<=(a1.length:Int)/\(a1.length:Int)<=(a0.length:Int)) <|
    some (decide ((a0.take (a1.length:Int).toNat)=a1))
   else
    some false).bind λy1=>
 some y1
def nT (a0:cF) (a1:cF):Option Bool:=
 (eX a0 a1).bind λx1=>
 some x1
def oJ (a0:cF) (a1:Int):Option Int:=some (Lib.indexByte a0 a1.toNat.toUInt8)
def lU (a0:cF) (a1:Int):Option Int:=
 (oJ a0 a1).bind λx1=>
 some x1
def nS (a0:cF) (a1:Int):Option Int:=
 (lU a0 a1).bind λx1=>
 some x1
@[go_sem] def Ao (a0:cF):Nat->Int->Option (Int ⊕ Int)
 | 0,_=>none
 | c4+1,v2=>
   if decide (v2<(a0.length:Int)) then
    (bM a0 v2).bind λx9=>
    (Bj (x9.toNat:Int)).bind λx10=>
    if x10 then
     Ao a0 c4 (i64.wrap (v2+1))
    else
     gY (0<=v2/\v2<=(a0.length:Int)) <|
     (nT (a0.drop v2.toNat) ([47,47]:cF)).bind λx17=>
     if x17 then
      gY (0<=v2/\v2<=(a0.length:Int)) <|
      (nS (a0.drop v2.toNat) 10).bind λx22=>
      if decide (x22<0) then
       some (.inr (a0.length:Int))
      else
       Ao a0 c4 (i64.wrap (v2+x22))
     else
      some (.inr v2)
   else
    some (.inl v2)
def BJ (n:Nat) (a0:cF) (a1:Int):Option Int:=
 (Ao a0 n a1).bind λy3=>
 y3.elim (λy3a=>
  some y3a) (λy3a=>
  some y3a)
def wB (a0:Int):Option Bool:=
 (if decide (97<=a0) then
    if decide (a0<=122) then
     some true
    else
     some (a0 == 95)
   else
    some (a0 == 95)).bind λy1=>
 some y1
def zR (a0:Int):Option Bool:=
 (if decide (48<=a0) then
    some (decide (a0<=57))
   else
    some false).bind λy1=>
 some y1
@[go_sem] def CD (a0:cF):Nat->Int->Option (Unit ⊕ cF)
 | 0,_=>none
 | c4+1,v2=>
   if decide (v2<(a0.length:Int)) then
    ((bM a0 v2).bind λx10=>
      (wB (x10.toNat:Int)).bind λx11=>
      if !x11 then
       (zR (x10.toNat:Int)).bind λx18=>
       some (!x18)
      else
       some false).bind λy9=>
    if y9 then
     gY (0<=v2/\v2<=(a0.length:Int)) <|
     some (.inr (a0.take v2.toNat))
    else
     CD a0 c4 (i64.wrap (v2+1))
   else
    some (.inl ())
def DX (n:Nat) (a0:cF):Option cF:=
 (CD a0 n 0).bind λy3=>
 y3.elim (λy3a=>
  some a0) (λy3a=>
  some y3a)
def iP (a0:cF) (a1:cF):Option (cF × Bool):=
 (eX a0 a1).bind λx1=>
 if !x1 then
  some (a0,false)
 else
  gY (0<=(a1.length:Int)/\(a1.length:Int)<=(a0.length:Int)) <|
  some ((a0.drop (a1.length:Int).toNat),true)
def pT (a0:cF) (a1:cF):Option (cF × Bool):=
 (iP a0 a1).bind λx1=>
 some (x1.1,x1.2)
@[go_sem] def Bd (x1:(cF × Bool)):Nat->Int->Int->Option (Int ⊕ (Int × Bool))
 | 0,_,_=>none
 | c8+1,v5,v6=>
   if decide (v6<(x1.1.length:Int)) then
    gY ((0:Int)<=16/\16<=(([48,49,50,51,52,53,54,55,56,57,97,98,99,100,101,102]:cF).length:Int)) <|
    (bM x1.1 v6).bind λx13=>
    (nS (([48,49,50,51,52,53,54,55,56,57,97,98,99,100,101,102]:cF).take (16:Int).toNat) (x13.toNat:Int)).bind λx14=>
    (if decide (x14<0) then
       some true
      else
       some (decide (4294967295<(i64.wrap ((i64.wrap (v5*16))+x14))))).bind λy22=>
    if y22 then
     some (.inr (0,false))
    else
     Bd x1 c8 (i64.wrap ((i64.wrap (v5*16))+x14)) (i64.wrap (v6+1))
   else
    some (.inl v5)
@[go_sem] def Bc (a0:cF):Nat->Int->Int->Option (Int ⊕ (Int × Bool))
 | 0,_,_=>none
 | c32+1,v29,v30=>
   if decide (v30<(a0.length:Int)) then
    gY ((0:Int)<=10/\10<=(([48,49,50,51,52,53,54,55,56,57,97,98,99,100,101,102]:cF).length:Int)) <|
    (bM a0 v30).bind λx37=>
    (nS (([48,49,50,51,52,53,54,55,56,57,97,98,99,100,101,102]:cF).take (10:Int).toNat) (x37.toNat:Int)).bind λx38=>
    (if decide (x38<0) then
       some true
      else
       some (decide (4294967295<(i64.wrap ((i64.wrap (v29*10))+x38))))).bind λy46=>
    if y46 then
     some (.inr (0,false))
    else
     Bc a0 c32 (i64.wrap ((i64.wrap (v29*10))+x38)) (i64.wrap (v30+1))
   else
    some (.inl v29)
def Bi (n:Nat) (a0:cF):Option (Int × Bool):=
 (pT a0 ([48,120]:cF)).bind λx1=>
 if x1.2=true then
  (Bd x1 n 0 0).bind λy7=>
  y7.elim (λy7a=>
   some ((u32.wrap y7a),(decide (x1.1 ≠ ([]:cF))))) (λy7a=>
   some y7a)
 else
  (Bc a0 n 0 0).bind λy31=>
  y31.elim (λy31a=>
   some ((u32.wrap y31a),(decide (a0 ≠ ([]:cF))))) (λy31a=>
   some y31a)
@[go_sem] def CE (a0:cF):Nat->Int->Option (Unit ⊕ cF)
 | 0,_=>none
 | c4+1,v2=>
   if decide (v2<26) then
    (bM eV v2).bind λx9=>
    (nT a0 x9).bind λx17=>
    if x17 then
     some (.inr x9)
    else
     CE a0 c4 (i64.wrap (v2+1))
   else
    some (.inl ())
def DY (n:Nat) (a0:cF):Option cF:=
 (CE a0 n 0).bind λy3=>
 y3.elim (λy3a=>
  some ([]:cF)) (λy3a=>
  some y3a)
def DZ (n:Nat) (a0:cF) (a1:Int):Option (dE × Int):=
 gY (0<=a1/\a1<=(a0.length:Int)) <|
 (DX n (a0.drop a1.toNat)).bind λx2=>
 (bM a0 a1).bind λx7=>
 (wB (x7.toNat:Int)).bind λx8=>
 if x8 then
  if decide (32<(x2.length:Int)) then
   some ((dE.mk 0 0 [] 0),102)
  else
   some ((dE.mk 1 a1 x2 0),0)
 else
  (zR (x7.toNat:Int)).bind λx16=>
  if x16 then
   (Bi n x2).bind λx19=>
   if !x19.2 then
    some ((dE.mk 0 0 [] 0),101)
   else
    some ((dE.mk 2 a1 x2 x19.1),0)
  else
   gY (0<=a1/\a1<=(a0.length:Int)) <|
   (DY n (a0.drop a1.toNat)).bind λx22=>
   if decide (x22=([]:cF)) then
    some ((dE.mk 0 0 [] 0),100)
   else
    some ((dE.mk 3 a1 x22 0),0)
@[go_sem] def zY (n:Nat) (a0:cF):Nat->(List dE)->Int->Option ((List dE) ⊕ ((List dE) × Int × Int))
 | 0,_,_=>none
 | c8+1,v5,v6=>
   if decide (v6<(a0.length:Int)) then
    (DZ n a0 v6).bind λx13=>
    if x13.2 != 0 then
     some (.inr ([],x13.2,v6))
    else
     gY (v5.length+[x13.1].length<=1073741824) <|
     (BJ n a0 (i64.wrap (v6+(x13.1.cX.length:Int)))).bind λx20=>
     zY n a0 c8 (v5++[x13.1]) x20
   else
    some (.inl v5)
def zQ (n:Nat) (a0:cF):Option ((List dE) × Int × Int):=
 if decide (65536<(a0.length:Int)) then
  some ([],161,0)
 else
  (BJ n a0 0).bind λx2=>
  (zY n a0 n [] x2).bind λy7=>
  y7.elim (λy7a=>
   gY (y7a.length+[(dE.mk 4 (a0.length:Int) [] 0)].length<=1073741824) <|
   some ((y7a++[(dE.mk 4 (a0.length:Int) [] 0)]),0,0)) (λy7a=>
   some y7a)
def dG (a0:aE):Option dE:=
 (bM a0.l_ a0.fW).bind λx2=>
 some x2
def gN (a0:aE) (a1:Int):Option aE:=
 if a0.e_ == 0 then
  (dG a0).bind λx2=>
  some ({ a0 with e_:=a1,CV:=x2.eU }:aE)
 else
  some a0
def eJ (a0:aE) (a1:Int):Option (aD × aE):=
 if decide (16384<(i64.wrap (a0.zP+1))) then
  (gN ({ a0 with zP:=(i64.wrap (a0.zP+1)) }:aE) 136).bind λx3=>
  (dG x3).bind λx5=>
  some ((aD.mk a1 x5.eU [] 0 []),x3)
 else
  (dG ({ a0 with zP:=(i64.wrap (a0.zP+1)) }:aE)).bind λx7=>
  some ((aD.mk a1 x7.eU [] 0 []),({ a0 with zP:=(i64.wrap (a0.zP+1)) }:aE))
@[go_sem] def kW (a0:(List cF)) (a1:cF):Nat->Int->Option (Unit ⊕ Int)
 | 0,_=>none
 | c4+1,v2=>
   if decide (v2<(a0.length:Int)) then
    (bM a0 v2).bind λx9=>
    if decide (a1=x9) then
     some (.inr v2)
    else
     kW a0 a1 c4 (i64.wrap (v2+1))
   else
    some (.inl ())
def jW (n:Nat) (a0:(List cF)) (a1:cF):Option Int:=
 (kW a0 a1 n 0).bind λy3=>
 y3.elim (λy3a=>
  some (-1:Int)) (λy3a=>
  some y3a)
def iF (n:Nat) (a0:(List cF)) (a1:cF):Option Bool:=
 (jW n a0 a1).bind λx1=>
 some (decide (0<=x1))
def wA (n:Nat) (a0:cF):Option Bool:=
 (iF n cD a0).bind λx1=>
 some x1
def iR (n:Nat) (a0:aE) (a1:cF):Option Bool:=
 (dG a0).bind λx1=>
 (if a0.e_ == 0 then
    if decide (x1.cX=a1) then
     if x1.bS == 3 then
      some true
     else
      if x1.bS == 1 then
       (wA n a1).bind λx9=>
       some x9
      else
       some false
    else
     some false
   else
    some false).bind λy4=>
 some y4
def bV (n:Nat) (a0:aE) (a1:cF):Option (Bool × aE):=
 (iR n a0 a1).bind λx1=>
 if !x1 then
  some (false,a0)
 else
  some (true,({ a0 with fW:=(i64.wrap (a0.fW+1)) }:aE))
def bR (n:Nat) (a0:aE) (a1:cF):Option aE:=
 (bV n a0 a1).bind λx1=>
 if !x1.1 then
  (gN x1.2 110).bind λx4=>
  some x4
 else
  some x1.2
def dX (n:Nat) (a0:aE):Option (cF × aE):=
 (dG a0).bind λx1=>
 (if a0.e_ != 0 then
    some true
   else
    if x1.bS != 1 then
     some true
    else
     (wA n x1.cX).bind λx7=>
     some x7).bind λy4=>
 if y4 then
  (gN a0 110).bind λx13=>
  some (([]:cF),x13)
 else
  some (x1.cX,({ a0 with fW:=(i64.wrap (a0.fW+1)) }:aE))
def kI (a0:aE):Option (Int × aE):=
 (dG a0).bind λx1=>
 (if a0.e_ != 0 then
    some true
   else
    some (x1.bS != 2)).bind λy4=>
 if y4 then
  (gN a0 110).bind λx10=>
  some (0,x10)
 else
  some (x1.oM,({ a0 with fW:=(i64.wrap (a0.fW+1)) }:aE))
def mD (n:Nat) (a0:aE):Option (Int × aE):=
 (bR n a0 ([91]:cF)).bind λx1=>
 (kI x1).bind λx3=>
 (bR n x3.2 ([93]:cF)).bind λx5=>
 some (x3.1,x5)
def kQ:List cF:=[([112,117,98]:cF),([117,51,50]:cF),([117,54,52]:cF)]
@[go_sem] def pX (n:Nat):Nat->Int->aE->aD->aD->Option ((aE × aD × aD) ⊕ (aD × aE))
 | 0,_,_,_,_=>none
 | c15+1,v10,v11,v12,v13=>
   if decide (v10<3) then
    (bM kQ v10).bind λx20=>
    (bV n v11 x20).bind λx29=>
    if x29.1=true then
     some (.inr (({ v13 with oM:=(u32.wrap (i64.wrap (1+v10))) }:aD),x29.2))
    else
     pX n c15 (i64.wrap (v10+1)) x29.2 v12 v13
   else
    some (.inl (v11,v12,v13))
def nD (n:Nat) (a0:aE):Option (aD × aE):=
 (eJ a0 3).bind λx2=>
 (dX n x2.2).bind λx5=>
 (bR n x5.2 ([58]:cF)).bind λx7=>
 (pX n n 0 x7 (aD.mk 0 0 [] 0 []) ({ x2.1 with cX:=x5.1 }:aD)).bind λy14=>
 y14.elim (λy14a=>
  (eJ y14a.1 14).bind λx37=>
  (mD n x37.2).bind λx40=>
  some (({ y14a.2.2 with oM:=4,aO:=[({ x37.1 with oM:=x40.1 }:aD)] }:aD),x40.2)) (λy14a=>
  some y14a)
@[go_sem] def mI (n:Nat):Nat->(List aD)->aE->Option ((List aD) × aE)
 | 0,_,_=>none
 | c11+1,v8,v9=>
   if v9.e_ == 0 then
    (nD n v9).bind λx16=>
    gY (v8.length+[x16.1].length<=1073741824) <|
    (bV n x16.2 ([44]:cF)).bind λx21=>
    if !x21.1 then
     some ((v8++[x16.1]),x21.2)
    else
     mI n c11 (v8++[x16.1]) x21.2
   else
    some (v8,v9)
def fG (n:Nat) (a0:aE):Option ((List aD) × aE):=
 (bR n a0 ([40]:cF)).bind λx1=>
 (bV n x1 ([41]:cF)).bind λx3=>
 if x3.1=true then
  some ([],x3.2)
 else
  ((mI n n [] x3.2).bind λy10=>
    some (y10.1,y10.2)).bind λy6=>
  (bR n y6.2 ([41]:cF)).bind λx27=>
  some (y6.1,x27)
def mF (a0:aE) (a1:Int):Option aE:=
 if decide (64<a1) then
  (gN a0 111).bind λx2=>
  some x2
 else
  some a0
@[go_sem] def lQ (n:Nat) (x1:(List cF)) (a0:aE):Nat->Int->Option (Unit ⊕ cF)
 | 0,_=>none
 | c15+1,v13=>
   if decide (v13<3) then
    (bM x1 v13).bind λx20=>
    (if decide (x20 ≠ ([]:cF)) then
       (iR n a0 x20).bind λx31=>
       some x31
      else
       some false).bind λy29=>
    if y29 then
     some (.inr x20)
    else
     lQ n x1 a0 c15 (i64.wrap (v13+1))
   else
    some (.inl ())
def mE (n:Nat) (a0:aE) (a1:Int):Option cF:=
 (bM cT a1).bind λx1=>
 (lQ n x1 a0 n 0).bind λy14=>
 y14.elim (λy14a=>
  some ([]:cF)) (λy14a=>
  some y14a)
@[go_sem] def fF (eN:aE->Int->Option (aD × aE)) (n:Nat) (a1:Int):Nat->(List aD)->aE->Option ((List aD) × aE)
 | 0,_,_=>none
 | c11+1,v8,v9=>
   if v9.e_ == 0 then
    (eN v9 a1).bind λx16=>
    gY (v8.length+[x16.1].length<=1073741824) <|
    (bV n x16.2 ([44]:cF)).bind λx21=>
    if !x21.1 then
     some ((v8++[x16.1]),x21.2)
    else
     fF eN n a1 c11 (v8++[x16.1]) x21.2
   else
    some (v8,v9)
def hM (eN:aE->Int->Option (aD × aE)) (n:Nat) (a0:aE) (a1:Int):Option ((List aD) × aE):=
 (bR n a0 ([40]:cF)).bind λx1=>
 (bV n x1 ([41]:cF)).bind λx3=>
 if x3.1=true then
  some ([],x3.2)
 else
  ((fF eN n a1 n [] x3.2).bind λy10=>
    some (y10.1,y10.2)).bind λy6=>
  (bR n y6.2 ([41]:cF)).bind λx27=>
  some (y6.1,x27)
def pA (cP:aE->Int->Int->Option (aD × aE)) (n:Nat) (a0:aE) (a1:Int):Option (aD × aE):=
 (cP a0 0 a1).bind λx2=>
 some (x2.1,x2.2)
@[go_sem] def pZ (cP:aE->Int->Int->Option (aD × aE)) (n:Nat) (a1:Int) (a2:Int):Nat->cF->aE->aD->Option (aE × aD)
 | 0,_,_,_=>none
 | c15+1,v11,v12,v13=>
   if decide (v11 ≠ ([]:cF)) then
    (eJ v12 19).bind λx20=>
    (bR n x20.2 v11).bind λx23=>
    (cP x23 (i64.wrap (a1+1)) a2).bind λx25=>
    if a1 == 3 then
     some (x25.2,({ x20.1 with cX:=v11,aO:=[v13,x25.1] }:aD))
    else
     (mE n x25.2 a1).bind λx28=>
     pZ cP n a1 a2 c15 x28 x25.2 ({ x20.1 with cX:=v11,aO:=[v13,x25.1] }:aD)
   else
    some (v12,v13)
def oB (cO:aE->Int->Option (aD × aE)) (cP:aE->Int->Int->Option (aD × aE)) (n:Nat) (a0:aE) (a1:Int) (a2:Int):Option (aD × aE):=
 if a1 == 7 then
  (cO a0 a2).bind λx3=>
  some (x3.1,x3.2)
 else
  (cP a0 (i64.wrap (a1+1)) a2).bind λx5=>
  (mE n x5.2 a1).bind λx8=>
  (pZ cP n a1 a2 n x8 x5.2 x5.1).bind λy14=>
  some (y14.2,y14.1)
def gU:List cF:=[([126]:cF),([45]:cF)]
@[go_sem] def oT (cO:aE->Int->Option (aD × aE)) (n:Nat) (a1:Int):Nat->Int->aE->aD->aD->Option ((aE × aD × aD) ⊕ (aD × aE))
 | 0,_,_,_,_=>none
 | c23+1,v18,v19,v20,v21=>
   if decide (v18<2) then
    (bM gU v18).bind λx28=>
    (bV n v19 x28).bind λx37=>
    if x37.1=true then
     (cO x37.2 (i64.wrap (a1+1))).bind λx40=>
     some (.inr (({ v20 with bS:=18,cX:=x28,aO:=[x40.1] }:aD),x40.2))
    else
     oT cO n a1 c23 (i64.wrap (v18+1)) x37.2 v20 v21
   else
    some (.inl (v19,v20,v21))
def mO (dN:aE->Int->Option (aD × aE)) (cO:aE->Int->Option (aD × aE)) (gF:aE->Int->Option ((List aD) × aE)) (n:Nat) (a0:aE) (a1:Int):Option (aD × aE):=
 (mF a0 a1).bind λx4=>
 (bV n x4 ([40]:cF)).bind λx6=>
 if x6.1=true then
  (dN x6.2 (i64.wrap (a1+1))).bind λx9=>
  (bR n x9.2 ([41]:cF)).bind λx12=>
  some (x9.1,x12)
 else
  (eJ x6.2 15).bind λx14=>
  (oT cO n a1 n 0 x14.2 x14.1 (aD.mk 0 0 [] 0 [])).bind λy22=>
  y22.elim (λy22a=>
   (if y22a.1.e_ == 0 then
      (dG y22a.1).bind λx72=>
      some (x72.bS == 2)
     else
      some false).bind λy70=>
   if y70 then
    (kI y22a.1).bind λx78=>
    some (({ y22a.2.1 with bS:=14,oM:=x78.1 }:aD),x78.2)
   else
    (dX n y22a.1).bind λx80=>
    ((iR n x80.2 ([40]:cF)).bind λx83=>
      if x83 then
       (gF x80.2 a1).bind λx86=>
       some (x86.2,({ y22a.2.1 with bS:=17,cX:=x80.1,aO:=x86.1 }:aD))
      else
       (bV n x80.2 ([91]:cF)).bind λx88=>
       if x88.1=true then
        (dN x88.2 (i64.wrap (a1+1))).bind λx91=>
        (bR n x91.2 ([93]:cF)).bind λx93=>
        some (x93,({ y22a.2.1 with bS:=16,cX:=x80.1,aO:=[x91.1] }:aD))
       else
        some (x88.2,({ y22a.2.1 with cX:=x80.1 }:aD))).bind λy82=>
    some (y82.2,y82.1)) (λy22a=>
   some y22a)
def lE (dN:aE->Int->Option (aD × aE)) (n:Nat) (a0:aE) (a1:Int):Option (aD × aE):=
 (dN a0 (i64.wrap (a1+1))).bind λx2=>
 some (x2.1,x2.2)
def bG:Nat->(aE->Int->Option ((List aD) × aE)) × (aE->Int->Option (aD × aE)) × (aE->Int->Int->Option (aD × aE)) × (aE->Int->Option (aD × aE)) × (aE->Int->Option (aD × aE))
 | 0=>(λ_ _=>none,λ_ _=>none,λ_ _ _=>none,λ_ _=>none,λ_ _=>none)
 | n+1=>(hM (bG n).2.2.2.2 n,pA (bG n).2.2.1 n,oB (bG n).2.2.2.1 (bG n).2.2.1 n,mO (bG n).2.1 (bG n).2.2.2.1 (bG n).1 n,lE (bG n).2.1 n)
def zN (n:Nat):aE->Int->Option ((List aD) × aE):=(bG n).1
def eK (n:Nat):aE->Int->Option (aD × aE):=(bG n).2.1
def FC (n:Nat):aE->Int->Int->Option (aD × aE):=(bG n).2.2.1
def EB (n:Nat):aE->Int->Option (aD × aE):=(bG n).2.2.2.1
def Dd (n:Nat):aE->Int->Option (aD × aE):=(bG n).2.2.2.2
def lF (n:Nat) (a0:aE) (a1:aD) (a2:Int):Option (aD × aE):=
 (dX n a0).bind λx3=>
 (bR n x3.2 ([61]:cF)).bind λx5=>
 (eK n x5 a2).bind λx7=>
 (bR n x7.2 ([59]:cF)).bind λx9=>
 some (({ a1 with cX:=x3.1,aO:=[x7.1] }:aD),x9)
def nZ (n:Nat) (a0:aE) (a1:Int):Option (aD × aE):=
 (eK n a0 (i64.wrap (a1+2))).bind λx2=>
 some (x2.1,x2.2)
@[go_sem] def fQ (n:Nat) (a1:Int):Nat->(List aD)->aE->Option ((List aD) × aE)
 | 0,_,_=>none
 | c11+1,v8,v9=>
   if v9.e_ == 0 then
    (nZ n v9 a1).bind λx16=>
    gY (v8.length+[x16.1].length<=1073741824) <|
    (bV n x16.2 ([44]:cF)).bind λx21=>
    if !x21.1 then
     some ((v8++[x16.1]),x21.2)
    else
     fQ n a1 c11 (v8++[x16.1]) x21.2
   else
    some (v8,v9)
def gX (n:Nat) (a0:aE) (a1:Int):Option ((List aD) × aE):=
 (bR n a0 ([40]:cF)).bind λx1=>
 (bV n x1 ([41]:cF)).bind λx3=>
 if x3.1=true then
  some ([],x3.2)
 else
  ((fQ n a1 n [] x3.2).bind λy10=>
    some (y10.1,y10.2)).bind λy6=>
  (bR n y6.2 ([41]:cF)).bind λx27=>
  some (y6.1,x27)
def nC (n:Nat) (a0:aE) (a1:aD) (a2:Int):Option (aD × aE):=
 (dX n a0).bind λx5=>
 ((iR n x5.2 ([40]:cF)).bind λx8=>
   if x8 then
    (gX n x5.2 a2).bind λx11=>
    some (x11.2,({ a1 with bS:=10,cX:=x5.1,aO:=x11.1 }:aD))
   else
    (bV n x5.2 ([91]:cF)).bind λx13=>
    if x13.1=true then
     (eK n x13.2 (i64.wrap (a2+2))).bind λx16=>
     (bR n x16.2 ([93]:cF)).bind λx18=>
     (bR n x18 ([61]:cF)).bind λx20=>
     (eK n x20 (i64.wrap (a2+1))).bind λx22=>
     gY ([x16.1].length+[x22.1].length<=1073741824) <|
     some (x22.2,({ a1 with bS:=9,cX:=x5.1,aO:=([x16.1]++[x22.1]) }:aD))
    else
     (bR n x13.2 ([61]:cF)).bind λx25=>
     (eK n x25 (i64.wrap (a2+1))).bind λx27=>
     some (x27.2,({ a1 with cX:=x5.1,aO:=[x27.1] }:aD))).bind λy7=>
 (bR n y7.1 ([59]:cF)).bind λx32=>
 some (y7.2,x32)
@[go_sem] def nG (eM:aE->Int->Option (aD × aE)) (n:Nat) (a1:Int):Nat->aE->aD->Option (aE × aD)
 | 0,_,_=>none
 | c13+1,v10,v11=>
   (if v10.e_ == 0 then
      (iR n v10 ([125]:cF)).bind λx19=>
      some (!x19)
     else
      some false).bind λy17=>
   if y17 then
    (eM v10 a1).bind λx25=>
    gY (v11.aO.length+[x25.1].length<=1073741824) <|
    nG eM n a1 c13 x25.2 ({ v11 with aO:=(v11.aO++[x25.1]) }:aD)
   else
    some (v10,v11)
def oC (eM:aE->Int->Option (aD × aE)) (n:Nat) (a0:aE) (a1:Int):Option (aD × aE):=
 (mF a0 a1).bind λx2=>
 (eJ x2 4).bind λx4=>
 (bR n x4.2 ([123]:cF)).bind λx7=>
 (nG eM n a1 n x7 x4.1).bind λy12=>
 (bR n y12.1 ([125]:cF)).bind λx32=>
 some (y12.2,x32)
def lD (lY:aE->aD->Int->Option (aD × aE)) (nB:aE->aD->Int->Option (aD × aE)) (n:Nat) (a0:aE) (a1:Int):Option (aD × aE):=
 (eJ a0 8).bind λx2=>
 ((bV n x2.2 ([108,101,116]:cF)).bind λx6=>
   if x6.1=true then
    (lF n x6.2 ({ x2.1 with bS:=5 }:aD) (i64.wrap (a1+1))).bind λx9=>
    some (.inr (x9.1,x9.2))
   else
    (bV n x6.2 ([118,97,114]:cF)).bind λx11=>
    if x11.1=true then
     (lF n x11.2 ({ x2.1 with bS:=6 }:aD) (i64.wrap (a1+1))).bind λx14=>
     some (.inr (x14.1,x14.2))
    else
     (bV n x11.2 ([97,114,114]:cF)).bind λx16=>
     if x16.1=true then
      (dX n x16.2).bind λx19=>
      (mD n x19.2).bind λx21=>
      some (.inl (x21.2,({ x2.1 with bS:=7,cX:=x19.1,oM:=x21.1 }:aD)))
     else
      (bV n x16.2 ([114,101,116,117,114,110]:cF)).bind λx23=>
      if x23.1=true then
       (eK n x23.2 (i64.wrap (a1+1))).bind λx26=>
       some (.inl (x26.2,({ x2.1 with bS:=13,aO:=[x26.1] }:aD)))
      else
       (bV n x23.2 ([105,102]:cF)).bind λx28=>
       if x28.1=true then
        (lY x28.2 x2.1 a1).bind λx31=>
        some (.inr (x31.1,x31.2))
       else
        (bV n x28.2 ([102,111,114]:cF)).bind λx33=>
        if x33.1=true then
         (nB x33.2 x2.1 a1).bind λx36=>
         some (.inr (x36.1,x36.2))
        else
         (nC n x33.2 x2.1 a1).bind λx38=>
         some (.inr (x38.1,x38.2)):Option ((aE × aD) ⊕ (aD × aE))).bind λy5=>
 y5.elim (λy5a=>
  (bR n y5a.1 ([59]:cF)).bind λx43=>
  some (y5a.2,x43)) (λy5a=>
  some y5a)
def nE (dI:aE->Int->Option (aD × aE)) (n:Nat) (a0:aE) (a1:aD) (a2:Int):Option (aD × aE):=
 (eK n a0 (i64.wrap (a2+1))).bind λx3=>
 (dI x3.2 (i64.wrap (a2+1))).bind λx5=>
 gY ([x3.1].length+[x5.1].length<=1073741824) <|
 (bV n x5.2 ([101,108,115,101]:cF)).bind λx8=>
 if x8.1=true then
  (dI x8.2 (i64.wrap (a2+1))).bind λx11=>
  gY (([x3.1]++[x5.1]).length+[x11.1].length<=1073741824) <|
  some (({ a1 with bS:=11,aO:=(([x3.1]++[x5.1])++[x11.1]) }:aD),x11.2)
 else
  some (({ a1 with bS:=11,aO:=([x3.1]++[x5.1]) }:aD),x8.2)
def oZ (dI:aE->Int->Option (aD × aE)) (n:Nat) (a0:aE) (a1:aD) (a2:Int):Option (aD × aE):=
 (dX n a0).bind λx3=>
 (bR n x3.2 ([105,110]:cF)).bind λx5=>
 (eK n x5 (i64.wrap (a2+1))).bind λx7=>
 (bR n x7.2 ([46,46]:cF)).bind λx9=>
 (eK n x9 (i64.wrap (a2+1))).bind λx11=>
 gY ([x7.1].length+[x11.1].length<=1073741824) <|
 (dI x11.2 (i64.wrap (a2+1))).bind λx14=>
 gY (([x7.1]++[x11.1]).length+[x14.1].length<=1073741824) <|
 some (({ a1 with bS:=12,cX:=x3.1,aO:=(([x7.1]++[x11.1])++[x14.1]) }:aD),x14.2)
def dA:Nat->(aE->Int->Option (aD × aE)) × (aE->Int->Option (aD × aE)) × (aE->aD->Int->Option (aD × aE)) × (aE->aD->Int->Option (aD × aE))
 | 0=>(λ_ _=>none,λ_ _=>none,λ_ _ _=>none,λ_ _ _=>none)
 | n+1=>(oC (dA n).2.1 n,lD (dA n).2.2.1 (dA n).2.2.2 n,nE (dA n).1 n,oZ (dA n).1 n)
def eA (n:Nat):aE->Int->Option (aD × aE):=(dA n).1
def Db (n:Nat):aE->Int->Option (aD × aE):=(dA n).2.1
def Fe (n:Nat):aE->aD->Int->Option (aD × aE):=(dA n).2.2.1
def Gp (n:Nat):aE->aD->Int->Option (aD × aE):=(dA n).2.2.2
def kR (n:Nat) (a0:aE):Option (aD × aE):=
 (eJ a0 2).bind λx2=>
 (bV n x2.2 ([101,120,112,111,114,116]:cF)).bind λx5=>
 if x5.1=true then
  (bR n x5.2 ([102,110]:cF)).bind λx8=>
  (dX n x8).bind λx10=>
  (fG n x10.2).bind λx12=>
  (bV n x12.2 ([45,62]:cF)).bind λx14=>
  if x14.1=true then
   (bV n x14.2 ([117,51,50]:cF)).bind λx17=>
   if x17.1=true then
    (eA n x17.2 1).bind λx20=>
    gY (x12.1.length+[x20.1].length<=1073741824) <|
    some (({ x2.1 with cX:=x10.1,oM:=(orK .u32 1 2),aO:=(x12.1++[x20.1]) }:aD),x20.2)
   else
    (bR n x17.2 ([117,54,52]:cF)).bind λx25=>
    (eA n x25 1).bind λx27=>
    gY (x12.1.length+[x27.1].length<=1073741824) <|
    some (({ x2.1 with cX:=x10.1,oM:=(orK .u32 1 4),aO:=(x12.1++[x27.1]) }:aD),x27.2)
  else
   (eA n x14.2 1).bind λx32=>
   gY (x12.1.length+[x32.1].length<=1073741824) <|
   some (({ x2.1 with cX:=x10.1,oM:=1,aO:=(x12.1++[x32.1]) }:aD),x32.2)
 else
  (bR n x5.2 ([102,110]:cF)).bind λx37=>
  (dX n x37).bind λx39=>
  (fG n x39.2).bind λx41=>
  (bV n x41.2 ([45,62]:cF)).bind λx43=>
  if x43.1=true then
   (bV n x43.2 ([117,51,50]:cF)).bind λx46=>
   if x46.1=true then
    (eA n x46.2 1).bind λx49=>
    gY (x41.1.length+[x49.1].length<=1073741824) <|
    some (({ x2.1 with cX:=x39.1,oM:=(orK .u32 x2.1.oM 2),aO:=(x41.1++[x49.1]) }:aD),x49.2)
   else
    (bR n x46.2 ([117,54,52]:cF)).bind λx54=>
    (eA n x54 1).bind λx56=>
    gY (x41.1.length+[x56.1].length<=1073741824) <|
    some (({ x2.1 with cX:=x39.1,oM:=(orK .u32 x2.1.oM 4),aO:=(x41.1++[x56.1]) }:aD),x56.2)
  else
   (eA n x43.2 1).bind λx61=>
   gY (x41.1.length+[x61.1].length<=1073741824) <|
   some (({ x2.1 with cX:=x39.1,aO:=(x41.1++[x61.1]) }:aD),x61.2)
@[go_sem] def uL (n:Nat):Nat->aE->aD->Option (aE × aD)
 | 0,_,_=>none
 | c13+1,v10,v11=>
   (if v10.e_ == 0 then
      (dG v10).bind λx19=>
      some (x19.bS != 4)
     else
      some false).bind λy17=>
   if y17 then
    (kR n v10).bind λx25=>
    gY (v11.aO.length+[x25.1].length<=1073741824) <|
    uL n c13 x25.2 ({ v11 with aO:=(v11.aO++[x25.1]) }:aD)
   else
    some (v10,v11)
def Ai (n:Nat) (a0:cF):Option (aD × Int × Int):=
 (zQ n a0).bind λx2=>
 if x2.2.1 != 0 then
  some ((aD.mk 0 0 [] 0 []),x2.2.1,x2.2.2)
 else
  (eJ (aE.mk x2.1 0 0 0 0) 1).bind λx6=>
  (uL n n x6.2 x6.1).bind λy12=>
  if y12.1.e_ != 0 then
   some ((aD.mk 0 0 [] 0 []),y12.1.e_,y12.1.CV)
  else
   some (y12.2,0,0)
def pP (a0:aG) (a1:aH) (a2:Int) (a3:Int):Option aH:=
 if a1.e_ == 0 then
  some (aH.mk a2 a3)
 else
  some a1
def bB (a0:aG) (a1:aH) (a2:Bool) (a3:Int) (a4:Int):Option aH:=
 if !a2 then
  (pP a0 a1 a3 a4).bind λx2=>
  some x2
 else
  some a1
def Ax (a0:aT) (a1:cF):Option Bool:=
 some (decide (a0.fM=a1))
@[go_sem] def cJ (a0:(List aT)) (a1:cF):Nat->Int->Option (Unit ⊕ Int)
 | 0,_=>none
 | c4+1,v2=>
   if decide (v2<(a0.length:Int)) then
    (bM a0 v2).bind λx9=>
    (Ax x9 a1).bind λx10=>
    if x10 then
     some (.inr v2)
    else
     cJ a0 a1 c4 (i64.wrap (v2+1))
   else
    some (.inl ())
def eQ (n:Nat) (a0:(List aT)) (a1:cF):Option Int:=
 (cJ a0 a1 n 0).bind λy3=>
 y3.elim (λy3a=>
  some (-1:Int)) (λy3a=>
  some y3a)
def pG (n:Nat) (a0:bH) (a1:cF):Option (Int × Bool):=
 (eQ n a0.bF a1).bind λx3=>
 some ((max x3 0),(decide (0<=x3)))
@[go_sem] def vQ (a0:cF):Nat->Int->Option (Unit ⊕ Int)
 | 0,_=>none
 | c4+1,v2=>
   if decide (v2<5) then
    (bM cL v2).bind λx9=>
    if decide (x9.Qh=a0) then
     some (.inr x9.QB)
    else
     vQ a0 c4 (i64.wrap (v2+1))
   else
    some (.inl ())
def uP (n:Nat) (a0:cF):Option Int:=
 (vQ a0 n 0).bind λy3=>
 y3.elim (λy3a=>
  some 0) (λy3a=>
  some y3a)
def yH (a0:Int):Option Int:=
 if (wC .u32 a0 2) != 0 then
  some 2
 else
  if (wC .u32 a0 4) != 0 then
   some 3
  else
   some 0
@[go_sem] def kE (n:Nat) (a2:aD):Nat->Int->aG->aH->Option (aG × aH)
 | 0,_,_,_=>none
 | c9+1,v5,v6,v7=>
   if decide (v5<(a2.aO.length:Int)) then
    (bM a2.aO v5).bind λx14=>
    (pG n v6.p_ x14.cX).bind λx20=>
    (if !x20.2 then
       (uP n x14.cX).bind λx25=>
       (bB v6 v7 (x25 == 0) 131 x14.eU).bind λx26=>
       some x26
      else
       (bB v6 v7 false 131 x14.eU).bind λx29=>
       some x29).bind λy23=>
    (yH x14.oM).bind λx34=>
    gY (v6.f_<0) <|
    gY (v6.p_.bF.length+1<=1073741824) <|
    kE n a2 c9 (i64.wrap (v5+1)) ({ v6 with p_:=⟨(v6.p_.bF++[(aT.mk x14.cX ((wC .u32 x14.oM 1) != 0) x34 0 [] [])])⟩ }:aG) y23
   else
    some (v6,v7)
def pB (n:Nat) (a0:aG) (a1:aH) (a2:aD):Option (aG × aH):=
 (bB a0 a1 (decide ((a2.aO.length:Int)<=64)) 136 a2.eU).bind λx2=>
 (kE n a2 n 0 a0 x2).bind λy8=>
 gY (0<=(a2.aO.length:Int)/\(a2.aO.length:Int)<=1073741824) <|
 some (({ y8.1 with cC:=(List.replicate a2.aO.length []) }:aG),y8.2)
@[go_sem] def oO (a0:aT):Nat->Int->Int->Option Int
 | 0,_,_=>none
 | c8+1,v5,v6=>
   if decide (v6<((a0.aX.take a0.bC.toNat).length:Int)) then
    ((bM (a0.aX.take a0.bC.toNat) v6).bind λx14=>
      if x14.bS == 3 then
       some (i64.wrap ((i64.wrap (v5+(i64.wrap ((v5.tmod 2)+1))))+1))
      else
       some (i64.wrap (v5+1))).bind λy13=>
    oO a0 c8 y13 (i64.wrap (v6+1))
   else
    some v5
def sV (n:Nat) (a0:aT):Option Int:=
 gY (0<=a0.bC/\a0.bC<=(a0.aX.length:Int)) <|
 (oO a0 n 0 0).bind λy7=>
 some y7
@[go_sem] def iC (x1:aT):Nat->Int->aG->Option aG
 | 0,_,_=>none
 | c31+1,v28,v29=>
   if decide (v28<x1.bC) then
    gY (v29.bI.length+1<=1073741824) <|
    iC x1 c31 (i64.wrap (v28+1)) ({ v29 with bI:=(v29.bI++[v28]) }:aG)
   else
    some v29
def mL (n:Nat) (a0:aG) (a1:aH) (a2:Int):Option (aG × aH):=
 (bM a0.p_.bF a2).bind λx1=>
 (iC x1 n 0 ({ a0 with f_:=a2,bI:=[],fW:=a2 }:aG)).bind λy30=>
 some (y30,a1)
def wW (a0:Int):Option Bool:=
 (if decide (1<=a0) then
    if decide (a0<=255) then
     some true
    else
     if decide (255<a0) then
      if decide (a0<=1024) then
       some ((a0.tmod 4) == 0)
      else
       some false
     else
      some false
   else
    if decide (255<a0) then
     if decide (a0<=1024) then
      some ((a0.tmod 4) == 0)
     else
      some false
    else
     some false).bind λy1=>
 some y1
@[go_sem] def kT (a0:aG) (a2:cF):Nat->Int->Option (Unit ⊕ Int)
 | 0,_=>none
 | c5+1,v3=>
   if decide (0<=v3) then
    (bM a0.p_.bF a0.f_).bind λx10=>
    (bM a0.bI v3).bind λx13=>
    (bM x10.aX x13).bind λx14=>
    if decide (x14.fM=a2) then
     some (.inr x13)
    else
     kT a0 a2 c5 (i64.wrap (v3 - 1))
   else
    some (.inl ())
def lK (n:Nat) (a0:aG) (a1:aH) (a2:cF):Option Int:=
 (kT a0 a2 n (i64.wrap ((a0.bI.length:Int) - 1))).bind λy4=>
 y4.elim (λy4a=>
  some (-1:Int)) (λy4a=>
  some y4a)
def eB (n:Nat) (a0:aG) (a1:aH) (a2:aL) (a3:Int):Option (Int × aG × aH):=
 (lK n a0 a1 a2.fM).bind λx2=>
 (bB a0 a1 (decide (x2<0)) 131 a3).bind λx3=>
 (bM a0.p_.bF a0.f_).bind λx6=>
 (bB a0 x3 (decide ((x6.aX.length:Int)<250)) 136 a3).bind λx9=>
 if x9.e_ != 0 then
  some ((-1:Int),a0,x9)
 else
  gY (x6.aX.length+1<=1073741824) <|
  gY (a0.bI.length+1<=1073741824) <|
  some ((x6.aX.length:Int),({ a0 with p_:=⟨(a0.p_.bF.set a0.f_.toNat { x6 with aX:=(x6.aX++[a2]) })⟩,bI:=(a0.bI++[(x6.aX.length:Int)]) }:aG),x9)
@[go_sem] def jE (n:Nat) (a2:(List aD)):Nat->Int->aG->aH->Option (aG × aH)
 | 0,_,_,_=>none
 | c6+1,v2,v3,v4=>
   if decide (v2<(a2.length:Int)) then
    ((bM a2 v2).bind λx12=>
      (if (i64.wrap x12.oM) == 4 then
         some (decide (0<(x12.aO.length:Int)))
        else
         some false).bind λy19=>
      if y19 then
       (bM x12.aO 0).bind λx25=>
       (wW (i64.wrap x25.oM)).bind λx31=>
       (bB v3 v4 x31 136 x12.eU).bind λx32=>
       (eB n v3 x32 (aL.mk x12.cX (i64.wrap x12.oM) (i64.wrap x25.oM)) x12.eU).bind λx35=>
       some (x35.2.1,x35.2.2)
      else
       (eB n v3 v4 (aL.mk x12.cX (i64.wrap x12.oM) 0) x12.eU).bind λx37=>
       some (x37.2.1,x37.2.2)).bind λy11=>
    jE n a2 c6 (i64.wrap (v2+1)) y11.1 y11.2
   else
    some (v3,v4)
def qT (n:Nat) (a0:aG) (a1:aH) (a2:(List aD)):Option (aG × aH):=
 (jE n a2 n 0 a0 a1).bind λy5=>
 (bM y5.1.p_.bF y5.1.f_).bind λx61=>
 some (({ y5.1 with p_:=⟨(y5.1.p_.bF.set y5.1.f_.toNat { x61 with bC:=(x61.aX.length:Int) })⟩ }:aG),y5.2)
def lJ (n:Nat) (a0:aG) (a1:aH) (a2:Int) (a3:aD):Option (aG × aH):=
 (mL n a0 a1 a2).bind λx2=>
 gY (0<=(max (i64.wrap ((a3.aO.length:Int) - 1)) 0)/\(max (i64.wrap ((a3.aO.length:Int) - 1)) 0)<=(a3.aO.length:Int)) <|
 (qT n x2.1 x2.2 (a3.aO.take (max (i64.wrap ((a3.aO.length:Int) - 1)) 0).toNat)).bind λx4=>
 if x4.2.e_ == 0 then
  ((bM x4.1.p_.bF x4.1.f_).bind λx10=>
    if !x10.dF then
     (bB x4.1 x4.2 true 136 a3.eU).bind λx27=>
     some x27
    else
     (sV n x10).bind λx29=>
     (bB x4.1 x4.2 (decide (x29<=4)) 136 a3.eU).bind λx30=>
     some x30).bind λy9=>
  some (x4.1,y9)
 else
  some (x4.1,x4.2)
def eO (a0:aG) (a1:aH) (a2:Int):Option Int:=
 if decide (a2<0) then
  some 0
 else
  (bM a0.p_.bF a0.f_).bind λx2=>
  (bM x2.aX a2).bind λx5=>
  some x5.bS
def gA (n:Nat) (a0:aG) (a1:aH) (a2:aD):Option (Int × aH):=
 (lK n a0 a1 a2.cX).bind λx2=>
 (bB a0 a1 (decide (0<=x2)) 130 a2.eU).bind λx4=>
 some (x2,x4)
def tM (a0:Int) (a1:Int):Option Int:=
 (if a0 == a1 then
    if decide (1<=a0) then
     some (decide (a0<=3))
    else
     some false
   else
    some false).bind λy1=>
 if y1 then
  some a0
 else
  (if a0 == 1 then
     if a1 == 2 then
      some true
     else
      if a0 == 2 then
       some (a1 == 1)
      else
       some false
    else
     if a0 == 2 then
      some (a1 == 1)
     else
      some false).bind λy8=>
  if y8 then
   some 2
  else
   some 0
def cG (a0:aG) (a1:aH) (a2:aF) (a3:Int):Option (aF × aH):=
 (bB a0 a1 (a3 != 0) 132 a2.eU).bind λx3=>
 some (({ a2 with cK:=a3 }:aF),x3)
def gK (a0:aG) (a1:aH) (a2:aF) (a3:aF) (a4:aF):Option (aF × aH):=
 (bB a0 a1 (a4.cK == 1) 133 a4.eU).bind λx5=>
 if a3.cK == 3 then
  (if decide (a4.fR=([110,117,109]:cF)) then
     (bB a0 x5 (decide (a4.N_<=63)) 132 a2.eU).bind λx10=>
     some x10
    else
     (bB a0 x5 false 132 a2.eU).bind λx12=>
     some x12).bind λy8=>
  (cG a0 y8 a2 a3.cK).bind λx17=>
  some (x17.1,x17.2)
 else
  (cG a0 x5 a2 a3.cK).bind λx19=>
  some (x19.1,x19.2)
def tK (a0:Int):Option Int:=
 if a0 == 1 then
  some 2
 else
  some a0
def qX (a0:Int):Option Bool:=
 (if a0 == 1 then
    some true
   else
    some (a0 == 2)).bind λy1=>
 some y1
def lS (a0:aG) (a1:aH) (a2:aF):Option Int:=
 (bM a2.aO 1).bind λx2=>
 (bM a2.aO 2).bind λx3=>
 (tM x2.cK x3.cK).bind λx4=>
 ((bM a2.aO 0).bind λx17=>
   (qX x17.cK).bind λx18=>
   if !x18 then
    some true
   else
    some (x4 == 0)).bind λy16=>
 if y16 then
  some 0
 else
  (tK x4).bind λx30=>
  some x30
def oI (mN:aG->aH->aD->aF->Option (aF × aH)) (lZ:aG->aH->aD->aF->Option (aF × aH)) (lC:aG->aH->aD->aF->Option (aF × aH)) (kL:aG->aH->aD->aF->Option (aF × aH)) (n:Nat) (a0:aG) (a1:aH) (a2:aD):Option (aF × aH):=
 if a2.bS == 14 then
  some ((aF.mk ([110,117,109]:cF) 1 a2.oM (-1:Int) [] a2.eU),a1)
 else
  if a2.bS == 15 then
   (gA n a0 a1 a2).bind λx6=>
   (eO a0 x6.2 x6.1).bind λx8=>
   (bB a0 x6.2 (x8 != 4) 132 a2.eU).bind λx10=>
   some ((aF.mk ([118,97,114]:cF) x8 0 x6.1 [] a2.eU),x10)
  else
   if a2.bS == 16 then
    (mN a0 a1 a2 (aF.mk [] 0 0 (-1:Int) [] a2.eU)).bind λx13=>
    some (x13.1,x13.2)
   else
    if a2.bS == 18 then
     (lZ a0 a1 a2 (aF.mk [] 0 0 (-1:Int) [] a2.eU)).bind λx16=>
     some (x16.1,x16.2)
    else
     if a2.bS == 19 then
      (lC a0 a1 a2 (aF.mk [] 0 0 (-1:Int) [] a2.eU)).bind λx19=>
      some (x19.1,x19.2)
     else
      (kL a0 a1 a2 (aF.mk [] 0 0 (-1:Int) [] a2.eU)).bind λx21=>
      some (x21.1,x21.2)
def oH (cZ:aG->aH->aD->Option (aF × aH)) (n:Nat) (a0:aG) (a1:aH) (a2:aD) (a3:aF):Option (aF × aH):=
 (bM a2.aO 0).bind λx4=>
 (cZ a0 a1 x4).bind λx5=>
 (gA n a0 x5.2 a2).bind λx13=>
 (eO a0 x13.2 x13.1).bind λx15=>
 (bB a0 x13.2 (x15 == 4) 132 a2.eU).bind λx16=>
 (bB a0 x16 (x5.1.cK == 1) 133 x5.1.eU).bind λx19=>
 (if x19.e_ == 0 then
    some (decide (x5.1.fR=([110,117,109]:cF)))
   else
    some false).bind λy21=>
 if y21 then
  (bM a0.p_.bF a0.f_).bind λx27=>
  (bM x27.aX x13.1).bind λx30=>
  (bB a0 x19 (decide ((i64.wrap x5.1.N_)<x30.qO)) 137 x5.1.eU).bind λx31=>
  some (({ a3 with fR:=([105,110,100,101,120]:cF),cK:=2,fI:=x13.1,aO:=[x5.1] }:aF),x31)
 else
  some (({ a3 with fR:=([105,110,100,101,120]:cF),cK:=2,fI:=x13.1,aO:=[x5.1] }:aF),x19)
def nI (cM:aG->aH->(List aD)->Option ((List aF) × aH)) (n:Nat) (a0:aG) (a1:aH) (a2:aD) (a3:aF):Option (aF × aH):=
 (cM a0 a1 a2.aO).bind λx4=>
 if decide (a2.cX=([45]:cF)) then
  (bM x4.1 0).bind λx7=>
  some (({ a3 with fR:=([110,101,103]:cF),cK:=x7.cK,aO:=x4.1 }:aF),x4.2)
 else
  (bM x4.1 0).bind λx13=>
  some (({ a3 with fR:=([110,111,116]:cF),cK:=x13.cK,aO:=x4.1 }:aF),x4.2)
def mS (cM:aG->aH->(List aD)->Option ((List aF) × aH)) (n:Nat) (a0:aG) (a1:aH) (a2:aD) (a3:aF):Option (aF × aH):=
 (cM a0 a1 a2.aO).bind λx4=>
 (bM x4.1 0).bind λx6=>
 (bM x4.1 1).bind λx9=>
 (tM x6.cK x9.cK).bind λx20=>
 if decide (a2.cX=([47]:cF)) then
  (bB a0 x4.2 (x6.cK == 1) 133 x6.eU).bind λx23=>
  (bB a0 x23 (x9.cK == 1) 133 x9.eU).bind λx25=>
  (cG a0 x25 ({ a3 with fR:=a2.cX,aO:=x4.1 }:aF) 1).bind λx27=>
  some (x27.1,x27.2)
 else
  if decide (a2.cX=([37]:cF)) then
   (bB a0 x4.2 (x6.cK == 1) 133 x6.eU).bind λx30=>
   (bB a0 x30 (x9.cK == 1) 133 x9.eU).bind λx32=>
   (cG a0 x32 ({ a3 with fR:=a2.cX,aO:=x4.1 }:aF) 1).bind λx34=>
   some (x34.1,x34.2)
  else
   if decide (a2.cX=([60,60]:cF)) then
    (gK a0 x4.2 ({ a3 with fR:=a2.cX,aO:=x4.1 }:aF) x6 x9).bind λx37=>
    some (x37.1,x37.2)
   else
    if decide (a2.cX=([62,62]:cF)) then
     (gK a0 x4.2 ({ a3 with fR:=a2.cX,aO:=x4.1 }:aF) x6 x9).bind λx40=>
     some (x40.1,x40.2)
    else
     if decide (a2.cX=([60,60,60]:cF)) then
      (gK a0 x4.2 ({ a3 with fR:=a2.cX,aO:=x4.1 }:aF) x6 x9).bind λx43=>
      some (x43.1,x43.2)
     else
      if decide (a2.cX=([42]:cF)) then
       (bB a0 x4.2 (x20 != 3) 132 a2.eU).bind λx46=>
       (cG a0 x46 ({ a3 with fR:=a2.cX,aO:=x4.1 }:aF) x20).bind λx48=>
       some (x48.1,x48.2)
      else
       if decide (a2.cX=([61,61]:cF)) then
        if x20 == 3 then
         (cG a0 x4.2 ({ a3 with fR:=a2.cX,aO:=x4.1 }:aF) 2).bind λx52=>
         some (x52.1,x52.2)
        else
         (cG a0 x4.2 ({ a3 with fR:=a2.cX,aO:=x4.1 }:aF) x20).bind λx54=>
         some (x54.1,x54.2)
       else
        if decide (a2.cX=([60]:cF)) then
         if x20 == 3 then
          (cG a0 x4.2 ({ a3 with fR:=a2.cX,aO:=x4.1 }:aF) 2).bind λx58=>
          some (x58.1,x58.2)
         else
          (cG a0 x4.2 ({ a3 with fR:=a2.cX,aO:=x4.1 }:aF) x20).bind λx60=>
          some (x60.1,x60.2)
        else
         (cG a0 x4.2 ({ a3 with fR:=a2.cX,aO:=x4.1 }:aF) x20).bind λx62=>
         some (x62.1,x62.2)
def mA (cM:aG->aH->(List aD)->Option ((List aF) × aH)) (n:Nat) (a0:aG) (a1:aH) (a2:aD) (a3:aF):Option (aF × aH):=
 (uP n a2.cX).bind λx4=>
 (bB a0 a1 (decide (0<x4)) 130 a2.eU).bind λx6=>
 (bB a0 x6 ((a2.aO.length:Int) == x4) 136 a2.eU).bind λx8=>
 (cM a0 x8 a2.aO).bind λx10=>
 if x10.2.e_ != 0 then
  some (({ a3 with fR:=a2.cX,aO:=x10.1 }:aF),x10.2)
 else
  (bM x10.1 0).bind λx13=>
  if decide (a2.cX=([115,101,108,101,99,116]:cF)) then
   (lS a0 x10.2 ({ a3 with fR:=a2.cX,aO:=x10.1 }:aF)).bind λx20=>
   (cG a0 x10.2 ({ a3 with fR:=a2.cX,aO:=x10.1 }:aF) x20).bind λx21=>
   some (x21.1,x21.2)
  else
   if decide (a2.cX=([108,111,110,103]:cF)) then
    (qX x13.cK).bind λx25=>
    (bB a0 x10.2 x25 132 a2.eU).bind λx26=>
    (cG a0 x26 ({ a3 with fR:=a2.cX,aO:=x10.1 }:aF) 3).bind λx29=>
    some (x29.1,x29.2)
   else
    if decide (a2.cX=([119,105,100,101]:cF)) then
     ((qX x13.cK).bind λx33=>
       if x33 then
        (bM x10.1 1).bind λx36=>
        (qX x36.cK).bind λx37=>
        (bB a0 x10.2 x37 132 a2.eU).bind λx38=>
        some x38
       else
        (bB a0 x10.2 false 132 a2.eU).bind λx46=>
        some x46).bind λy32=>
     (cG a0 y32 ({ a3 with fR:=a2.cX,aO:=x10.1 }:aF) 3).bind λx51=>
     some (x51.1,x51.2)
    else
     (bB a0 x10.2 (x13.cK == 3) 132 a2.eU).bind λx53=>
     (cG a0 x53 ({ a3 with fR:=a2.cX,aO:=x10.1 }:aF) 2).bind λx55=>
     some (x55.1,x55.2)
@[go_sem] def qV (cZ:aG->aH->aD->Option (aF × aH)) (a2:(List aD)) (a0:aG):Nat->(List aF)->Int->aH->Option ((List aF) × aH)
 | 0,_,_,_=>none
 | c6+1,v2,v3,v4=>
   if decide (v3<(a2.length:Int)) then
    (bM a2 v3).bind λx11=>
    (cZ a0 v4 x11).bind λx17=>
    gY (v2.length+[x17.1].length<=1073741824) <|
    qV cZ a2 a0 c6 (v2++[x17.1]) (i64.wrap (v3+1)) x17.2
   else
    some (v2,v4)
def pE (cZ:aG->aH->aD->Option (aF × aH)) (n:Nat) (a0:aG) (a1:aH) (a2:(List aD)):Option ((List aF) × aH):=
 (qV cZ a2 a0 n [] 0 a1).bind λy5=>
 some (y5.1,y5.2)
def cB:Nat->(aG->aH->aD->Option (aF × aH)) × (aG->aH->aD->aF->Option (aF × aH)) × (aG->aH->aD->aF->Option (aF × aH)) × (aG->aH->aD->aF->Option (aF × aH)) × (aG->aH->aD->aF->Option (aF × aH)) × (aG->aH->(List aD)->Option ((List aF) × aH))
 | 0=>(λ_ _ _=>none,λ_ _ _ _=>none,λ_ _ _ _=>none,λ_ _ _ _=>none,λ_ _ _ _=>none,λ_ _ _=>none)
 | n+1=>(oI (cB n).2.1 (cB n).2.2.1 (cB n).2.2.2.1 (cB n).2.2.2.2.1 n,oH (cB n).1 n,nI (cB n).2.2.2.2.2 n,mS (cB n).2.2.2.2.2 n,mA (cB n).2.2.2.2.2 n,pE (cB n).1 n)
def gB (n:Nat):aG->aH->aD->Option (aF × aH):=(cB n).1
def FE (n:Nat):aG->aH->aD->aF->Option (aF × aH):=(cB n).2.1
def Ff (n:Nat):aG->aH->aD->aF->Option (aF × aH):=(cB n).2.2.1
def EM (n:Nat):aG->aH->aD->aF->Option (aF × aH):=(cB n).2.2.2.1
def DT (n:Nat):aG->aH->aD->aF->Option (aF × aH):=(cB n).2.2.2.2.1
def Gq (n:Nat):aG->aH->(List aD)->Option ((List aF) × aH):=(cB n).2.2.2.2.2
def eG (n:Nat) (a0:aG) (a1:aH) (a2:aD):Option (aF × aH):=
 (gB n a0 a1 a2).bind λx3=>
 (bB a0 x3.2 (x3.1.cK == 1) 133 a2.eU).bind λx6=>
 some (x3.1,x6)
def mR (n:Nat) (a0:aG) (a1:aH) (a2:aD):Option (Int × aH):=
 (pG n a0.p_ a2.cX).bind λx2=>
 (bB a0 a1 x2.2 130 a2.eU).bind λx5=>
 some (x2.1,x5)
def oF (a0:aG) (a1:aH) (a2:Int):Option (List aL):=
 (bM a0.p_.bF a2).bind λx1=>
 gY (0<=x1.bC/\x1.bC<=(x1.aX.length:Int)) <|
 some (x1.aX.take (x1.bC.toNat))
def tN (a0:Int) (a1:Int):Option Bool:=
 (if a0 == a1 then
    some true
   else
    if a0 == 1 then
     some (a1 == 2)
    else
     some false).bind λy1=>
 some y1
def mM (n:Nat) (a0:aG) (a1:aH) (a2:aD) (a3:Int):Option (aF × aH):=
 (bB a0 a1 (a2.bS == 15) 132 a2.eU).bind λx3=>
 (gA n a0 x3 a2).bind λx5=>
 ((eO a0 x5.2 x5.1).bind λx8=>
   if x8 == 4 then
    (bM a0.p_.bF a0.f_).bind λx11=>
    (bM x11.aX (max x5.1 0)).bind λx14=>
    (bB a0 x5.2 (x14.qO == a3) 132 a2.eU).bind λx15=>
    some x15
   else
    (bB a0 x5.2 false 132 a2.eU).bind λx40=>
    some x40).bind λy7=>
 some ((aF.mk ([118,97,114]:cF) 4 0 x5.1 [] a2.eU),y7)
def mT (n:Nat) (a0:aG) (a1:aH) (a2:aD) (a3:aL):Option (aF × aH):=
 if a3.bS == 4 then
  (mM n a0 a1 a2 a3.qO).bind λx5=>
  some (x5.1,x5.2)
 else
  if a3.bS == 1 then
   (eG n a0 a1 a2).bind λx8=>
   some (x8.1,x8.2)
  else
   (gB n a0 a1 a2).bind λx10=>
   (tN x10.1.cK a3.bS).bind λx13=>
   (bB a0 x10.2 x13 132 a2.eU).bind λx14=>
   some (x10.1,x14)
@[go_sem] def kU (n:Nat) (a2:aD) (x20:(List aL)) (a0:aG) (x7:(List Int)) (x4:(Int × aH)):Nat->Int->aH->aB->Option (aH × aB)
 | 0,_,_,_=>none
 | c29+1,v25,v26,v27=>
   if decide (v25<(a2.aO.length:Int)) then
    (bM a2.aO v25).bind λx34=>
    if v26.e_ != 0 then
     some (v26,v27)
    else
     (bM x20 v25).bind λx41=>
     (mT n ({ a0 with cC:=(a0.cC.set a0.fW.toNat (x7++[x4.1])) }:aG) v26 x34 x41).bind λx42=>
     gY (v27.aO.length+[x42.1].length<=1073741824) <|
     kU n a2 x20 a0 x7 x4 c29 (i64.wrap (v25+1)) x42.2 ({ v27 with aO:=(v27.aO++[x42.1]) }:aB)
   else
    some (v26,v27)
def iX (n:Nat) (a0:aG) (a1:aH) (a2:aD) (a3:aB) (a4:Int):Option (aB × aG × aH):=
 (mR n a0 a1 a2).bind λx4=>
 if x4.2.e_ != 0 then
  some (({ a3 with fR:=([99,97,108,108]:cF),fI:=a4,gJ:=x4.1,aO:=[] }:aB),a0,x4.2)
 else
  (bM a0.cC a0.fW).bind λx7=>
  gY (x7.length+1<=1073741824) <|
  (oF ({ a0 with cC:=(a0.cC.set a0.fW.toNat (x7++[x4.1])) }:aG) x4.2 x4.1).bind λx20=>
  (bB ({ a0 with cC:=(a0.cC.set a0.fW.toNat (x7++[x4.1])) }:aG) x4.2 ((a2.aO.length:Int) == (x20.length:Int)) 136 a2.eU).bind λx22=>
  (kU n a2 x20 a0 x7 x4 n 0 x22 ({ a3 with fR:=([99,97,108,108]:cF),fI:=a4,gJ:=x4.1,aO:=[] }:aB)).bind λy28=>
  some (y28.2,({ a0 with cC:=(a0.cC.set a0.fW.toNat (x7++[x4.1])) }:aG),y28.1)
def jK (n:Nat) (a0:aG) (a1:aH) (a2:aD):Option Bool:=
 (if a2.bS == 17 then
    (uP n a2.cX).bind λx4=>
    some (x4 == 0)
   else
    some false).bind λy2=>
 some y2
def pD (n:Nat) (a0:aG) (a1:aH) (a2:aD) (a3:aB):Option (aB × aG × aH):=
 (bM a2.aO 0).bind λx4=>
 (jK n a0 a1 x4).bind λx5=>
 if x5 then
  (iX n a0 a1 x4 ({ a3 with aO:=[] }:aB) (-1:Int)).bind λx13=>
  if x13.2.2.e_ != 0 then
   some (({ x13.1 with eU:=a2.eU }:aB),x13.2.1,x13.2.2)
  else
   (bM x13.2.1.p_.bF x13.1.gJ).bind λx16=>
   (bB x13.2.1 x13.2.2 (x16.bX != 0) 132 a2.eU).bind λx30=>
   (eB n x13.2.1 x30 (aL.mk a2.cX x16.bX 0) a2.eU).bind λx32=>
   some (({ x13.1 with fI:=x32.1,eU:=a2.eU }:aB),x32.2.1,x32.2.2)
 else
  (gB n a0 a1 x4).bind λx34=>
  (tK x34.1.cK).bind λx37=>
  (eB n a0 x34.2 (aL.mk a2.cX x37 0) a2.eU).bind λx38=>
  some (({ a3 with fR:=([118,97,114]:cF),fI:=x38.1,aO:=[x34.1] }:aB),x38.2.1,x38.2.2)
def nJ (n:Nat) (a0:aG) (a1:aH) (a2:aD):Option (Int × aH):=
 (gA n a0 a1 a2).bind λx2=>
 (eO a0 x2.2 x2.1).bind λx4=>
 (if x4 == 2 then
    (bB a0 x2.2 true 132 a2.eU).bind λx8=>
    some x8
   else
    (bB a0 x2.2 (x4 == 3) 132 a2.eU).bind λx10=>
    some x10).bind λy6=>
 some (x2.1,y6)
def qL (n:Nat) (a0:aG) (a1:aH) (a2:aD) (a3:aB):Option (aB × aG × aH):=
 (nJ n a0 a1 a2).bind λx4=>
 (bM a2.aO 0).bind λx6=>
 (jK n a0 x4.2 x6).bind λx7=>
 if x7 then
  (iX n a0 x4.2 x6 ({ a3 with aO:=[] }:aB) x4.1).bind λx15=>
  if x15.2.2.e_ == 0 then
   (eO x15.2.1 x15.2.2 x4.1).bind λx18=>
   (bM x15.2.1.p_.bF x15.1.gJ).bind λx19=>
   (bB x15.2.1 x15.2.2 (x19.bX == x18) 132 a2.eU).bind λx21=>
   some (({ x15.1 with eU:=a2.eU }:aB),x15.2.1,x21)
  else
   some (({ x15.1 with eU:=a2.eU }:aB),x15.2.1,x15.2.2)
 else
  (gB n a0 x4.2 x6).bind λx36=>
  (eO a0 x36.2 x4.1).bind λx39=>
  (tN x36.1.cK x39).bind λx40=>
  (bB a0 x36.2 x40 132 a2.eU).bind λx41=>
  some (({ a3 with fR:=([115,101,116]:cF),fI:=x4.1,aO:=[x36.1] }:aB),a0,x41)
def pC (n:Nat) (a0:aG) (a1:aH) (a2:aD) (a3:Int):Option (aF × aH):=
 (eG n a0 a1 a2).bind λx3=>
 (if x3.2.e_ == 0 then
    some (decide (x3.1.fR=([110,117,109]:cF)))
   else
    some false).bind λy6=>
 if y6 then
  (bM a0.p_.bF a0.f_).bind λx12=>
  (bM x12.aX a3).bind λx15=>
  (bB a0 x3.2 (decide ((i64.wrap x3.1.N_)<x15.qO)) 137 a2.eU).bind λx16=>
  some (x3.1,x16)
 else
  some (x3.1,x3.2)
def qM (n:Nat) (a0:aG) (a1:aH) (a2:aD) (a3:aB):Option (aB × aH):=
 (gA n a0 a1 a2).bind λx4=>
 (eO a0 x4.2 x4.1).bind λx6=>
 (bB a0 x4.2 (x6 == 4) 132 a2.eU).bind λx7=>
 (bM a2.aO 0).bind λx10=>
 (pC n a0 x7 x10 x4.1).bind λx11=>
 (bM a2.aO 1).bind λx19=>
 (gB n a0 x11.2 x19).bind λx20=>
 (tN x20.1.cK 2).bind λx28=>
 (bB a0 x20.2 x28 132 a2.eU).bind λx29=>
 some (({ a3 with fR:=([112,117,116]:cF),fI:=x4.1,aO:=[x11.1,x20.1] }:aB),x29)
def pQ (n:Nat) (a0:aG) (a1:aH) (a2:aD) (a3:aB) (a4:Bool):Option (aB × aG × aH):=
 (if a4 then
    (bM a0.p_.bF a0.f_).bind λx6=>
    (bB a0 a1 (x6.bX != 0) 135 a2.eU).bind λx9=>
    some x9
   else
    (bB a0 a1 false 135 a2.eU).bind λx24=>
    some x24).bind λy4=>
 (if y4.e_ == 0 then
    (bM a2.aO 0).bind λx31=>
    (jK n a0 y4 x31).bind λx32=>
    some x32
   else
    some false).bind λy29=>
 if y29 then
  (bM a2.aO 0).bind λx43=>
  (iX n a0 y4 x43 ({ a3 with aO:=[] }:aB) (-2:Int)).bind λx44=>
  if x44.2.2.e_ == 0 then
   (bM x44.2.1.p_.bF x44.1.gJ).bind λx52=>
   (bM x44.2.1.p_.bF x44.2.1.f_).bind λx54=>
   (bB x44.2.1 x44.2.2 (x52.bX == x54.bX) 132 a2.eU).bind λx57=>
   some (({ x44.1 with eU:=a2.eU }:aB),x44.2.1,x57)
  else
   some (({ x44.1 with eU:=a2.eU }:aB),x44.2.1,x44.2.2)
 else
  (bM a2.aO 0).bind λx83=>
  (gB n a0 y4 x83).bind λx84=>
  (bM a0.p_.bF a0.f_).bind λx92=>
  (tN x84.1.cK x92.bX).bind λx95=>
  (bB a0 x84.2 x95 132 a2.eU).bind λx96=>
  some (({ a3 with fR:=([114,101,116,117,114,110]:cF),aO:=[x84.1] }:aB),a0,x96)
@[go_sem] def kF (dP:aG->aH->aD->Bool->Option (aB × aG × aH)) (a2:aD) (a3:Bool):Nat->(List aB)->Int->aG->aH->Option ((List aB) × aG × aH)
 | 0,_,_,_,_=>none
 | c9+1,v4,v5,v6,v7=>
   if decide (v5<(a2.aO.length:Int)) then
    (bM a2.aO v5).bind λx14=>
    if v7.e_ != 0 then
     some (v4,v6,v7)
    else
     (if a3 then
        (dP v6 v7 x14 (v5 == (i64.wrap ((a2.aO.length:Int) - 1)))).bind λx28=>
        gY (v4.length+[x28.1].length<=1073741824) <|
        some ((v4++[x28.1]),x28.2.1,x28.2.2)
       else
        (dP v6 v7 x14 false).bind λx33=>
        gY (v4.length+[x33.1].length<=1073741824) <|
        some ((v4++[x33.1]),x33.2.1,x33.2.2)).bind λy26=>
     kF dP a2 a3 c9 y26.1 (i64.wrap (v5+1)) y26.2.1 y26.2.2
   else
    some (v4,v6,v7)
def nL (dP:aG->aH->aD->Bool->Option (aB × aG × aH)) (n:Nat) (a0:aG) (a1:aH) (a2:aD) (a3:Bool):Option ((List aB) × aG × aH):=
 (kF dP a2 a3 n [] 0 a0 a1).bind λy8=>
 gY (0<=(a0.bI.length:Int)/\(a0.bI.length:Int)<=(y8.2.1.bI.length:Int)) <|
 some (y8.1,({ y8.2.1 with bI:=(y8.2.1.bI.take (a0.bI.length)) }:aG),y8.2.2)
@[go_sem] def fO (cQ:aG->aH->aD->Bool->Option ((List aB) × aG × aH)) (a2:aD):Nat->Int->aG->aH->aB->Option (aG × aH × aB)
 | 0,_,_,_,_=>none
 | c59+1,v54,v55,v56,v57=>
   if decide (v54<((a2.aO.drop 2).length:Int)) then
    (bM (a2.aO.drop 2) v54).bind λx64=>
    (cQ v55 v56 x64 false).bind λx70=>
    fO cQ a2 c59 (i64.wrap (v54+1)) x70.2.1 x70.2.2 ({ v57 with eW:=x70.1 }:aB)
   else
    some (v55,v56,v57)
def kN (cQ:aG->aH->aD->Bool->Option ((List aB) × aG × aH)) (pJ:aG->aH->aD->aB->Option (aB × aG × aH)) (n:Nat) (a0:aG) (a1:aH) (a2:aD) (a3:Bool):Option (aB × aG × aH):=
 if a2.bS == 5 then
  (bM a2.aO 0).bind λx5=>
  (eG n a0 a1 x5).bind λx6=>
  (eB n a0 x6.2 (aL.mk a2.cX 1 0) a2.eU).bind λx13=>
  some ((aB.mk ([108,101,116]:cF) x13.1 0 [x6.1] [] [] a2.eU),x13.2.1,x13.2.2)
 else
  if a2.bS == 6 then
   (pD n a0 a1 a2 (aB.mk [] (-1:Int) 0 [] [] [] a2.eU)).bind λx16=>
   some (x16.1,x16.2.1,x16.2.2)
  else
   if a2.bS == 7 then
    (wW (i64.wrap (min a2.oM 1025))).bind λx19=>
    (bB a0 a1 x19 136 a2.eU).bind λx20=>
    (eB n a0 x20 (aL.mk a2.cX 4 (i64.wrap a2.oM)) a2.eU).bind λx23=>
    some ((aB.mk ([97,114,114]:cF) x23.1 0 [] [] [] a2.eU),x23.2.1,x23.2.2)
   else
    if a2.bS == 8 then
     (qL n a0 a1 a2 (aB.mk [] (-1:Int) 0 [] [] [] a2.eU)).bind λx26=>
     some (x26.1,x26.2.1,x26.2.2)
    else
     if a2.bS == 9 then
      (qM n a0 a1 a2 (aB.mk [] (-1:Int) 0 [] [] [] a2.eU)).bind λx29=>
      some (x29.1,a0,x29.2)
     else
      if a2.bS == 10 then
       (iX n a0 a1 a2 (aB.mk [] (-1:Int) 0 [] [] [] a2.eU) (-1:Int)).bind λx32=>
       some (x32.1,x32.2.1,x32.2.2)
      else
       if a2.bS == 11 then
        (bM a2.aO 0).bind λx35=>
        (eG n a0 a1 x35).bind λx36=>
        (bM a2.aO 1).bind λx43=>
        (cQ a0 x36.2 x43 false).bind λx44=>
        gY ((0:Int)<=2/\2<=(a2.aO.length:Int)) <|
        (fO cQ a2 n 0 x44.2.1 x44.2.2 (aB.mk ([105,102]:cF) (-1:Int) 0 [x36.1] x44.1 [] a2.eU)).bind λy58=>
        some (y58.2.2,y58.1,y58.2.1)
       else
        if a2.bS == 12 then
         (pJ a0 a1 a2 (aB.mk [] (-1:Int) 0 [] [] [] a2.eU)).bind λx73=>
         some (x73.1,x73.2.1,x73.2.2)
        else
         if a2.bS == 13 then
          (pQ n a0 a1 a2 (aB.mk [] (-1:Int) 0 [] [] [] a2.eU) a3).bind λx76=>
          some (x76.1,x76.2.1,x76.2.2)
         else
          some ((aB.mk [] (-1:Int) 0 [] [] [] a2.eU),a0,a1)
def oG (cQ:aG->aH->aD->Bool->Option ((List aB) × aG × aH)) (n:Nat) (a0:aG) (a1:aH) (a2:aD) (a3:aB):Option (aB × aG × aH):=
 (bM a2.aO 0).bind λx4=>
 (eG n a0 a1 x4).bind λx5=>
 (bM a2.aO 1).bind λx6=>
 (eG n a0 x5.2 x6).bind λx7=>
 (eB n a0 x7.2 (aL.mk a2.cX 1 0) a2.eU).bind λx21=>
 (bM a2.aO 2).bind λx23=>
 (cQ x21.2.1 x21.2.2 x23 false).bind λx24=>
 gY (0<=(min (a0.bI.length:Int) (x24.2.1.bI.length:Int))/\(min (a0.bI.length:Int) (x24.2.1.bI.length:Int))<=(x24.2.1.bI.length:Int)) <|
 some (({ a3 with fR:=([102,111,114]:cF),fI:=x21.1,aO:=[x5.1,x7.1],bQ:=x24.1 }:aB),({ x24.2.1 with bI:=(x24.2.1.bI.take ((min (a0.bI.length:Int) (x24.2.1.bI.length:Int)).toNat)) }:aG),x24.2.2)
def dY:Nat->(aG->aH->aD->Bool->Option ((List aB) × aG × aH)) × (aG->aH->aD->Bool->Option (aB × aG × aH)) × (aG->aH->aD->aB->Option (aB × aG × aH))
 | 0=>(λ_ _ _ _=>none,λ_ _ _ _=>none,λ_ _ _ _=>none)
 | n+1=>(nL (dY n).2.1 n,kN (dY n).1 (dY n).2.2 n,oG (dY n).1 n)
def tZ (n:Nat):aG->aH->aD->Bool->Option ((List aB) × aG × aH):=(dY n).1
def Cg (n:Nat):aG->aH->aD->Bool->Option (aB × aG × aH):=(dY n).2.1
def FD (n:Nat):aG->aH->aD->aB->Option (aB × aG × aH):=(dY n).2.2
def vP (a0:aD):Option Bool:=
 (if decide (0<(a0.aO.length:Int)) then
    (bM a0.aO (i64.wrap ((a0.aO.length:Int) - 1))).bind λx4=>
    some (x4.bS == 13)
   else
    some false).bind λy2=>
 some y2
@[go_sem] def iO (n:Nat) (a3:aD):Nat->Int->aG->aH->Option (aG × aH)
 | 0,_,_,_=>none
 | c11+1,v7,v8,v9=>
   if decide (v7<((a3.aO.drop (max (i64.wrap ((a3.aO.length:Int) - 1)) 0).toNat).length:Int)) then
    (bM (a3.aO.drop (max (i64.wrap ((a3.aO.length:Int) - 1)) 0).toNat) v7).bind λx16=>
    (bM v8.p_.bF v8.f_).bind λx22=>
    (tZ n v8 v9 x16 true).bind λx25=>
    (bM x25.2.1.p_.bF v8.f_).bind λx26=>
    ((bM (x25.2.1.p_.bF.set v8.f_.toNat { x26 with bQ:=x25.1 }) v8.f_).bind λx56=>
      if x56.bX == 0 then
       (bB ({ x25.2.1 with p_:=⟨(x25.2.1.p_.bF.set v8.f_.toNat { x26 with bQ:=x25.1 })⟩ }:aG) x25.2.2 true 135 a3.eU).bind λx71=>
       some x71
      else
       (vP x16).bind λx73=>
       (bB ({ x25.2.1 with p_:=⟨(x25.2.1.p_.bF.set v8.f_.toNat { x26 with bQ:=x25.1 })⟩ }:aG) x25.2.2 x73 135 a3.eU).bind λx74=>
       some x74).bind λy55=>
    iO n a3 c11 (i64.wrap (v7+1)) ({ x25.2.1 with p_:=⟨(x25.2.1.p_.bF.set v8.f_.toNat { x26 with bQ:=x25.1 })⟩ }:aG) y55
   else
    some (v8,v9)
def lL (n:Nat) (a0:aG) (a1:aH) (a2:Int) (a3:aD):Option (aG × aH):=
 (mL n a0 a1 a2).bind λx2=>
 gY (0<=(max (i64.wrap ((a3.aO.length:Int) - 1)) 0)/\(max (i64.wrap ((a3.aO.length:Int) - 1)) 0)<=(a3.aO.length:Int)) <|
 (iO n a3 n 0 x2.1 x2.2).bind λy10=>
 some (y10.1,y10.2)
def wM (rec_:Int->List Int->Option (Bool × List Int)) (to:Int):List Int->List Int->Option (Bool × List Int)
 | [],seen=>some (false,seen)
 | k::ks,seen=>
   if k == to then some (true,seen)
   else
    (bM seen k).bind λs=>
    if i64.wrap (s+1) == 1 then
     (rec_ k (seen.set k.toNat (i64.wrap (s+1)))).bind λr=>
     if r.1=true then some (true,r.2) else wM rec_ to ks r.2
    else wM rec_ to ks (seen.set k.toNat (i64.wrap (s+1)))
def kS:Nat->aG->Int->Int->List Int->Option (Bool × List Int)
 | 0,_,_,_,_=>none
 | n+1,c,fr,to,seen=>(bM c.cC fr).bind λl=>gY (l.length<=1073741824) <| wM (λk s=>kS n c k to s) to l seen
abbrev Look:=Int->aD->aG->aH->Option (aG × aH)
def tL (look:Look):List aD->Nat->aG->aH->Option (aG × aH)
 | [],_,c,w=>some (c,w)
 | f::l,i,c,w=>if w.e_ == 0 then (look i f c w).bind λr=>tL look l (i+1) r.1 r.2 else tL look l (i+1) c w
def wX (nodes:List aD):List Look->aG->aH->Option (aG × aH)
 | [],c,w=>some (c,w)
 | look::ls,c,w=>(tL look nodes 0 c w).bind λr=>wX nodes ls r.1 r.2
def zV (n len:Nat) (c:aG):List aD->Nat->aH->Option aH
 | [],_,w=>some w
 | f::l,i,w=>if w.e_ == 0 then (kS n c i i (List.replicate len 0)).bind λr=>(bB c w (!r.1) 134 f.eU).bind λw'=>zV n len c l (i+1) w' else zV n len c l (i+1) w
def Ay (n:Nat) (a0:cF):Option (bH × Int × Int):=
 (Ai n a0).bind λp=>
 if p.2.1 != 0 then some (⟨[]⟩,p.2.1,p.2.2)
 else
  (pB n aG.Z ⟨0,0⟩ p.1).bind λa=>
  gY (p.1.aO.length<=1073741824) <|
  (wX p.1.aO [λi f c w=>lJ n c w i f,λi f c w=>lL n c w i f] a.1 a.2).bind λb=>
  (zV n p.1.aO.length b.1 p.1.aO 0 b.2).bind λw=>
  if w.e_ != 0 then some (⟨[]⟩,w.e_,w.CV) else some (b.1.p_,0,0)
structure aJ where
 p_:bH
 f_:aT
 eR:Int
 e_:Int
def dK (a0:aJ):Option aJ:=
 if decide (16384<(i64.wrap (a0.eR+1))) then
  some ({ a0 with eR:=(i64.wrap (a0.eR+1)),e_:=161 }:aJ)
 else
  some ({ a0 with eR:=(i64.wrap (a0.eR+1)) }:aJ)
def xY (a0:Int) (a1:(List Int)):Option Int:=
 (if decide (a0<0) then
    some true
   else
    some (decide ((a1.length:Int)<=a0))).bind λy1=>
 if y1 then
  some a0
 else
  (bM a1 a0).bind λx7=>
  some x7
def uM (uK:(List aF)->(List Int)->Option (List aF)) (n:Nat) (a0:aF) (a1:(List Int)):Option aF:=
 (xY a0.fI a1).bind λx3=>
 (uK a0.aO a1).bind λx5=>
 some ({ a0 with fI:=x3,aO:=x5 }:aF)
@[go_sem] def tV (rA:aF->(List Int)->Option aF) (a0:(List aF)) (a1:(List Int)):Nat->(List aF)->Int->Option (List aF)
 | 0,_,_=>none
 | c5+1,v2,v3=>
   if decide (v3<(a0.length:Int)) then
    (bM a0 v3).bind λx10=>
    (rA x10 a1).bind λx16=>
    gY (v2.length+[x16].length<=1073741824) <|
    tV rA a0 a1 c5 (v2++[x16]) (i64.wrap (v3+1))
   else
    some v2
def tH (rA:aF->(List Int)->Option aF) (n:Nat) (a0:(List aF)) (a1:(List Int)):Option (List aF):=
 (tV rA a0 a1 n [] 0).bind λy4=>
 some y4
def zZ:Nat->(aF->(List Int)->Option aF) × ((List aF)->(List Int)->Option (List aF))
 | 0=>(λ_ _=>none,λ_ _=>none)
 | n+1=>(uM (zZ n).2 n,tH (zZ n).1 n)
def rD (n:Nat):aF->(List Int)->Option aF:=(zZ n).1
def tI (n:Nat):(List aF)->(List Int)->Option (List aF):=(zZ n).2
def dJ (a0:aJ) (a1:aL):Option (Int × aJ):=
 if decide (4096<=(a0.f_.aX.length:Int)) then
  some (0,({ a0 with e_:=161 }:aJ))
 else
  gY (a0.f_.aX.length+[a1].length<=1073741824) <|
  some ((i64.wrap (((a0.f_.aX++[a1]).length:Int) - 1)),({ a0 with f_:=({ a0.f_ with aX:=(a0.f_.aX++[a1]) }:aT) }:aJ))
@[go_sem] def eF (n:Nat) (a1:aB) (a3:(List Int)) (a2:aT):Nat->(List aB)->(List Int)->Int->aJ->Option ((List aB) × (List Int) × aJ)
 | 0,_,_,_,_=>none
 | c9+1,v4,v5,v6,v7=>
   if decide (v6<(a1.aO.length:Int)) then
    ((bM a1.aO v6).bind λx15=>
      if x15.cK == 4 then
       (xY x15.fI a3).bind λx22=>
       gY (v5.length+[x22].length<=1073741824) <|
       some (v4,(v5++[x22]),v7)
      else
       (bM a2.aX v6).bind λx29=>
       if x29.bS == 1 then
        (dK v7).bind λx35=>
        (dJ x35 x29).bind λx37=>
        gY (v5.length+[x37.1].length<=1073741824) <|
        (rD n x15 a3).bind λx44=>
        gY (v4.length+[(aB.mk ([108,101,116]:cF) x37.1 0 [x44] [] [] a1.eU)].length<=1073741824) <|
        some ((v4++[(aB.mk ([108,101,116]:cF) x37.1 0 [x44] [] [] a1.eU)]),(v5++[x37.1]),x37.2)
       else
        (dK v7).bind λx49=>
        (dJ x49 x29).bind λx51=>
        gY (v5.length+[x51.1].length<=1073741824) <|
        (rD n x15 a3).bind λx58=>
        gY (v4.length+[(aB.mk ([118,97,114]:cF) x51.1 0 [x58] [] [] a1.eU)].length<=1073741824) <|
        some ((v4++[(aB.mk ([118,97,114]:cF) x51.1 0 [x58] [] [] a1.eU)]),(v5++[x51.1]),x51.2)).bind λy14=>
    eF n a1 a3 a2 c9 y14.1 y14.2.1 (i64.wrap (v6+1)) y14.2.2
   else
    some (v4,v5,v7)
def mK (n:Nat) (a0:aJ) (a1:aB) (a2:aT) (a3:(List Int)):Option ((List aB) × (List Int) × aJ):=
 (eF n a1 a3 a2 n [] [] 0 a0).bind λy8=>
 some (y8.1,y8.2.1,y8.2.2)
def jI (a0:aJ) (a1:aB) (a2:(List Int)) (a3:aB):Option aB:=
 (bM a0.p_.bF a1.gJ).bind λx4=>
 if a1.fI == (-2:Int) then
  if decide (a3.eU<0) then
   some ({ a3 with eU:=a1.eU }:aB)
  else
   some a3
 else
  if a1.fI == (-1:Int) then
   some (aB.mk ([118,97,114]:cF) (-1:Int) x4.bX [] [] [] a1.eU)
  else
   (xY a1.fI a2).bind λx12=>
   some (aB.mk ([115,101,116]:cF) x12 0 [] [] [] a1.eU)
def eC (a0:aJ) (a1:aF) (a2:aB):Option (aB × aJ):=
 if decide (a2.fR=([118,97,114]:cF)) then
  (dJ a0 (aL.mk [] a2.gJ 0)).bind λx5=>
  some (({ a2 with fI:=x5.1,gJ:=0,aO:=[a1] }:aB),x5.2)
 else
  some (({ a2 with gJ:=0,aO:=[a1] }:aB),a0)
@[go_sem] def dC (dZ:aJ->aB->(List Int)->aB->Option ((List aB) × aJ)) (a1:(List aB)) (a2:(List Int)) (a3:aB):Nat->(List aB)->Int->aJ->Option (((List aB) × aJ) ⊕ ((List aB) × aJ))
 | 0,_,_,_=>none
 | c7+1,v3,v4,v5=>
   if decide (v4<(a1.length:Int)) then
    (bM a1 v4).bind λx12=>
    if v5.e_ != 0 then
     some (.inr ([],v5))
    else
     (dZ v5 x12 a2 a3).bind λx19=>
     gY (v3.length+x19.1.length<=1073741824) <|
     dC dZ a1 a2 a3 c7 (v3++x19.1) (i64.wrap (v4+1)) x19.2
   else
    some (.inl (v3,v5))
def fC (dZ:aJ->aB->(List Int)->aB->Option ((List aB) × aJ)) (n:Nat) (a0:aJ) (a1:(List aB)) (a2:(List Int)) (a3:aB):Option ((List aB) × aJ):=
 (dC dZ a1 a2 a3 n [] 0 a0).bind λy6=>
 y6.elim (λy6a=>
  some (y6a.1,y6a.2)) (λy6a=>
  some y6a)
def dU (oS:aJ->aB->(List Int)->aB->Option ((List aB) × aJ)) (dS:aJ->(List aB)->(List Int)->aB->Option ((List aB) × aJ)) (n:Nat) (a0:aJ) (a1:aB) (a2:(List Int)) (a3:aB):Option ((List aB) × aJ):=
 if decide (a1.fR=([99,97,108,108]:cF)) then
  (oS a0 a1 a2 a3).bind λx4=>
  some (x4.1,x4.2)
 else
  (dK a0).bind λx6=>
  if decide (a1.fR=([114,101,116,117,114,110]:cF)) then
   (bM a1.aO 0).bind λx9=>
   (rD n x9 a2).bind λx10=>
   if decide (a3.eU<0) then
    (eC x6 x10 ({ a3 with eU:=a1.eU }:aB)).bind λx19=>
    some ([x19.1],x19.2)
   else
    (eC x6 x10 a3).bind λx21=>
    some ([x21.1],x21.2)
  else
   (xY a1.fI a2).bind λx23=>
   (tI n a1.aO a2).bind λx24=>
   (dS x6 a1.bQ a2 a3).bind λx27=>
   (dS x27.2 a1.eW a2 a3).bind λx28=>
   some ([({ a1 with fI:=x23,aO:=x24,bQ:=x27.1,eW:=x28.1 }:aB)],x28.2)
@[go_sem] def eE (x5:aT):Nat->(List Int)->Int->aJ->Option ((List Int) × aJ)
 | 0,_,_,_=>none
 | c20+1,v16,v17,v18=>
   if decide (v17<((x5.aX.drop x5.bC.toNat).length:Int)) then
    (bM (x5.aX.drop x5.bC.toNat) v17).bind λx25=>
    (dJ v18 x25).bind λx31=>
    gY (v16.length+[x31.1].length<=1073741824) <|
    eE x5 c20 (v16++[x31.1]) (i64.wrap (v17+1)) x31.2
   else
    some (v16,v18)
def fL (dS:aJ->(List aB)->(List Int)->aB->Option ((List aB) × aJ)) (n:Nat) (a0:aJ) (a1:aB) (a2:(List Int)) (a3:aB):Option ((List aB) × aJ):=
 (dK a0).bind λx3=>
 (bM x3.p_.bF a1.gJ).bind λx5=>
 (mK n x3 a1 x5 a2).bind λx11=>
 gY (0<=x5.bC/\x5.bC<=(x5.aX.length:Int)) <|
 (eE x5 n x11.2.1 0 x11.2.2).bind λy19=>
 if y19.2.e_ != 0 then
  some ([],y19.2)
 else
  (jI y19.2 a1 a2 a3).bind λx48=>
  (dS y19.2 x5.bQ y19.1 x48).bind λx49=>
  gY (x11.1.length+x49.1.length<=1073741824) <|
  some ((x11.1++x49.1),x49.2)
def gH:Nat->(aJ->(List aB)->(List Int)->aB->Option ((List aB) × aJ)) × (aJ->aB->(List Int)->aB->Option ((List aB) × aJ)) × (aJ->aB->(List Int)->aB->Option ((List aB) × aJ))
 | 0=>(λ_ _ _ _=>none,λ_ _ _ _=>none,λ_ _ _ _=>none)
 | n+1=>(fC (gH n).2.1 n,dU (gH n).2.2 (gH n).1 n,fL (gH n).1 n)
def dV (n:Nat):aJ->(List aB)->(List Int)->aB->Option ((List aB) × aJ):=(gH n).1
def fH (n:Nat):aJ->aB->(List Int)->aB->Option ((List aB) × aJ):=(gH n).2.1
def kJ (n:Nat):aJ->aB->(List Int)->aB->Option ((List aB) × aJ):=(gH n).2.2
def uX (n:Nat) (a0:bH) (a1:Int):Option (aT × Int):=
 (if decide (a1<0) then
    some true
   else
    some (decide ((a0.bF.length:Int)<=a1))).bind λy3=>
 if y3 then
  some ((aT.mk [] false 0 0 [] []),11)
 else
  (bM a0.bF a1).bind λx9=>
  gY (x9.aX.length<=1073741824) <|
  (dV n (aJ.mk a0 x9 0 0) x9.bQ [] (aB.mk ([114,101,116,117,114,110]:cF) (-1:Int) 0 [] [] [] (-1:Int))).bind λx17=>
  if x17.2.e_ != 0 then
   some ((aT.mk [] false 0 0 [] []),x17.2.e_)
  else
   some (({ x17.2.f_ with bQ:=x17.1 }:aT),0)
structure aM where
 fR:Int
 N_:Int
 aO:(List aM)
mutual
def aM.C:aM->List V
 | ⟨a0,a1,a2⟩=>[.lit (.int .i64 a0),.lit (.int .u32 a1),.list .none (aM.CL a2)]
def aM.CL:List aM->List (List V)
 | []=>[]
 | x::l=>aM.C x::aM.CL l
end
theorem aM.CL_eq (l:List aM):aM.CL l=l.map aM.C:=by
 induction l with
 | nil=>rfl
 | cons x l ih=>rw [aM.CL,ih];rfl
@[go_sem] theorem aM.C_eq (x:aM):aM.C x=[.lit (.int .i64 x.fR),.lit (.int .u32 x.N_),.list .none (x.aO.map aM.C)]:=by
 cases x;simp only [aM.C,aM.CL_eq]
def aM.Z:aM:=⟨0,0,[]⟩
structure bL where
 bO:(List aM)
 gV:(List Int)
 lW:(List Int)
 iG:(List Int)
def bL.C (x:bL):List V:=[.list .none (x.bO.map aM.C),.list .none (x.gV.map (cI .i64)),.list .none (x.lW.map (cI .u32)),.list .none (x.iG.map (cI .u32))]
@[go_sem] theorem bL.C_eq (x:bL):bL.C x=[.list .none (x.bO.map aM.C),.list .none (x.gV.map (cI .i64)),.list .none (x.lW.map (cI .u32)),.list .none (x.iG.map (cI .u32))]:=rI rfl
structure aS where
 c_:bL
 e_:Int
structure T_frame_giver where
 fW:Int
structure T_frame_Frame where
 Off_:(List Int)
 Bound_:(List Int)
 bX:Int
 Base_:Int
structure T_frame_Arg where
 Reg_:Int
 Off_:Int
def mY (n:Nat) (a0:cF) (a1:Int):Option (aT × bH × Bool):=
 if decide (2000<(a0.length:Int)) then
  some ((aT.mk [] false 0 0 [] []),(bH.mk []),false)
 else
  (Ay n a0).bind λx4=>
  if x4.2.1 != 0 then
   some ((aT.mk [] false 0 0 [] []),(bH.mk []),false)
  else
   (uX n x4.1 a1).bind λx8=>
   some (x8.1,x4.1,(x8.2 == 0))
@[go_sem] def yE (jY:(List aB)->Option Int) (a0:(List aB)):Nat->Int->Int->Option Int
 | 0,_,_=>none
 | c5+1,v2,v3=>
   if decide (v3<(a0.length:Int)) then
    ((bM a0 v3).bind λx11=>
      if decide (x11.fR=([102,111,114]:cF)) then
       (jY x11.bQ).bind λx18=>
       (jY x11.eW).bind λx19=>
       some (i64.wrap ((i64.wrap (v2+1))+(i64.wrap (x18+x19))))
      else
       (jY x11.bQ).bind λx22=>
       (jY x11.eW).bind λx23=>
       some (i64.wrap (v2+(i64.wrap (x22+x23))))).bind λy10=>
    yE jY a0 c5 y10 (i64.wrap (v3+1))
   else
    some v2
def vO (jY:(List aB)->Option Int) (n:Nat) (a0:(List aB)):Option Int:=
 (yE jY a0 n 0 0).bind λy4=>
 some y4
def wU:Nat->(List aB)->Option Int
 | 0=>λ_=>none
 | n+1=>vO (wU n) n
def tA (a0:List Int) (a1:Int):Option (List Int):=if a0.length=1/\a1=4 then some (a0++a0++a0++a0) else none
def Em (a0:Int):Option aM:=
 some (aM.mk 2 (u32.wrap a0) [])
@[go_sem] def zW (pO:aM->Option Int) (a0:aM):Nat->Int->Int->Option Int
 | 0,_,_=>none
 | c6+1,v3,v4=>
   if decide (v4<(a0.aO.length:Int)) then
    (bM a0.aO v4).bind λx11=>
    (pO x11).bind λx17=>
    zW pO a0 c6 (i64.wrap (v3+x17)) (i64.wrap (v4+1))
   else
    some v3
def xH (pO:aM->Option Int) (n:Nat) (a0:aM):Option Int:=
 (zW pO a0 n 1 0).bind λy5=>
 some y5
def vX:Nat->aM->Option Int
 | 0=>λ_=>none
 | n+1=>xH (vX n) n
@[go_sem] def gM (fY:bL->aF->Option Int) (a1:aF) (a0:bL):Nat->Int->Int->Option Int
 | 0,_,_=>none
 | c18+1,v15,v16=>
   if decide (v16<(a1.aO.length:Int)) then
    (bM a1.aO v16).bind λx23=>
    (fY a0 x23).bind λx29=>
    gM fY a1 a0 c18 (i64.wrap (v15+x29)) (i64.wrap (v16+1))
   else
    some v15
def eH (fY:bL->aF->Option Int) (n:Nat) (a0:bL) (a1:aF):Option Int:=
 if decide (a1.fR=([118,97,114]:cF)) then
  (bM a0.bO a1.fI).bind λx4=>
  (vX n x4).bind λx5=>
  some x5
 else
  (gM fY a1 a0 n 1 0).bind λy17=>
  some y17
def iA:Nat->bL->aF->Option Int
 | 0=>λ_ _=>none
 | n+1=>eH (iA n) n
def wJ (a0:aM) (a1:(List Int)):Option Int:=
 if a0.fR == 1 then
  some a0.N_
 else
  if decide ((i64.wrap a0.N_)<(a1.length:Int)) then
   (bM a1 a0.N_).bind λx4=>
   some x4
  else
   some 0
def uH (a0:Bool):Option Int:=
 if a0 then
  some 1
 else
  some 0
def Ad (a0:Int) (a1:Int):Option Int:=
 if a0 == 3 then
  some (comK .u32 a1)
 else
  some (u32.wrap (0 - a1))
def lT (a0:Int) (a1:Int):Option Int:=
 gY (0<=(wC .u64 (u64.wrap a1) 31)) <|
 gY (0<=(u64.wrap (32 - (wC .u64 (u64.wrap a1) 31)))) <|
 some (orK .u32 (shlK .u32 a0 (wC .u64 (u64.wrap a1) 31)) (Hs .u32 a0 (u64.wrap (32 - (wC .u64 (u64.wrap a1) 31)))))
def tE (a0:Int) (a1:Int) (a2:Int):Option Int:=
 if a0 == 5 then
  some (orK .u32 a1 a2)
 else
  if a0 == 6 then
   some (xorK .u32 a1 a2)
  else
   if a0 == 7 then
    some (wC .u32 a1 a2)
   else
    if a0 == 10 then
     gY (0<=(wC .u32 a2 31)) <|
     some (shlK .u32 a1 (wC .u32 a2 31))
    else
     if a0 == 11 then
      gY (0<=(wC .u32 a2 31)) <|
      some (Hs .u32 a1 (wC .u32 a2 31))
     else
      (lT a1 (i64.wrap (wC .u32 a2 31))).bind λx8=>
      some x8
def jV (a0:Int) (a1:Int) (a2:Int):Option (Int × Bool):=
 if a0 == 8 then
  (uH (a1 == a2)).bind λx2=>
  some (x2,true)
 else
  if a0 == 9 then
   (uH (decide (a1<a2))).bind λx5=>
   some (x5,true)
  else
   if a0 == 13 then
    some ((u32.wrap (a1+a2)),true)
   else
    if a0 == 14 then
     some ((u32.wrap (a1 - a2)),true)
    else
     if a0 == 15 then
      some ((u32.wrap (a1*a2)),true)
     else
      if a0 == 16 then
       if a2 == 0 then
        some (0,false)
       else
        gY (a2 ≠ 0) <|
        some ((u32.wrap (a1.tdiv a2)),true)
      else
       if a0 == 17 then
        if a2 == 0 then
         some (0,false)
        else
         gY (a2 ≠ 0) <|
         some ((a1.tmod a2),true)
       else
        (tE a0 a1 a2).bind λx16=>
        some (x16,true)
def lB (tT:aM->(List Int)->Option (Int × Bool)) (n:Nat) (a0:aM) (a1:(List Int)):Option (Int × Bool):=
 if (a0.aO.length:Int) == 0 then
  (wJ a0 a1).bind λx3=>
  some (x3,true)
 else
  (bM a0.aO 0).bind λx5=>
  (tT x5 a1).bind λx6=>
  (if !x6.2 then
     some true
    else
     some ((a0.aO.length:Int) == 1)).bind λy13=>
  if y13 then
   (uH x6.2).bind λx19=>
   (Ad a0.fR x6.1).bind λx20=>
   some ((u32.wrap (x19*x20)),x6.2)
  else
   (bM a0.aO 1).bind λx23=>
   (tT x23 a1).bind λx24=>
   if !x24.2 then
    some (0,false)
   else
    (jV a0.fR x6.1 x24.1).bind λx32=>
    some (x32.1,x32.2)
def kP:Nat->aM->(List Int)->Option (Int × Bool)
 | 0=>λ_ _=>none
 | n+1=>lB (kP n) n
def FY (a0:Int):Option aM:=
 some (aM.mk 1 a0 [])
@[go_sem] def pI (qZ:aM->Option aM) (a0:aM):Nat->Bool->Int->aM->Option (Bool × aM)
 | 0,_,_,_=>none
 | c9+1,v5,v6,v7=>
   if decide (v6<(a0.aO.length:Int)) then
    (bM a0.aO v6).bind λx14=>
    (qZ x14).bind λx20=>
    gY (v7.aO.length+[x20].length<=1073741824) <|
    (if v5 then
       some (x20.fR == 1)
      else
       some false).bind λy26=>
    pI qZ a0 c9 y26 (i64.wrap (v6+1)) ({ v7 with aO:=(v7.aO++[x20]) }:aM)
   else
    some (v5,v7)
def nA (qZ:aM->Option aM) (n:Nat) (a0:aM):Option aM:=
 (pI qZ a0 n (a0.fR != 2) 0 (aM.mk a0.fR a0.N_ [])).bind λy8=>
 if !y8.1 then
  some y8.2
 else
  (kP n y8.2 []).bind λx38=>
  if x38.2=true then
   (FY x38.1).bind λx41=>
   some x41
  else
   some y8.2
def oN:Nat->aM->Option aM
 | 0=>λ_=>none
 | n+1=>nA (oN n) n
@[go_sem] def Be (a0:cF):Nat->Int->Option (Unit ⊕ Int)
 | 0,_=>none
 | c4+1,v2=>
   if decide (v2<15) then
    (bM dQ v2).bind λx9=>
    if decide (x9.IA=a0) then
     some (.inr x9.op_)
    else
     Be a0 c4 (i64.wrap (v2+1))
   else
    some (.inl ())
def Bl (n:Nat) (a0:cF):Option Int:=
 (Be a0 n 0).bind λy3=>
 y3.elim (λy3a=>
  some 0) (λy3a=>
  some y3a)
@[go_sem] def jL (gL:bL->aF->Option aM) (a1:aF) (a0:bL):Nat->Int->aM->Option aM
 | 0,_,_=>none
 | c23+1,v20,v21=>
   if decide (v20<(a1.aO.length:Int)) then
    (bM a1.aO v20).bind λx28=>
    (gL a0 x28).bind λx34=>
    gY (v21.aO.length+[x34].length<=1073741824) <|
    jL gL a1 a0 c23 (i64.wrap (v20+1)) ({ v21 with aO:=(v21.aO++[x34]) }:aM)
   else
    some v21
def eS (gL:bL->aF->Option aM) (n:Nat) (a0:bL) (a1:aF):Option aM:=
 if decide (a1.fR=([110,117,109]:cF)) then
  (FY a1.N_).bind λx5=>
  some x5
 else
  if decide (a1.fR=([118,97,114]:cF)) then
   (bM a0.bO a1.fI).bind λx8=>
   some x8
  else
   (Bl n a1.fR).bind λx16=>
   (jL gL a1 a0 n 0 (aM.mk x16 0 [])).bind λy22=>
   some y22
def iM:Nat->bL->aF->Option aM
 | 0=>λ_ _=>none
 | n+1=>eS (iM n) n
def kG (n:Nat) (a0:bL) (a1:aF):Option (aM × Int):=
 if a1.cK != 1 then
  some ((aM.mk 0 0 []),132)
 else
  (iA n a0 a1).bind λx5=>
  if decide (2000<x5) then
   some ((aM.mk 0 0 []),161)
  else
   (iM n a0 a1).bind λx8=>
   (oN n x8).bind λx9=>
   some (x9,0)
def lG (n:Nat) (a0:aS) (a1:aF):Option (aM × aS):=
 (kG n a0.c_ a1).bind λx3=>
 if a0.e_ == 0 then
  some (x3.1,({ a0 with e_:=x3.2 }:aS))
 else
  some (x3.1,a0)
@[go_sem] def qB (n:Nat) (a1:aF):Nat->Int->aS->Option aS
 | 0,_,_=>none
 | c30+1,v27,v28=>
   if decide (v27<(a1.aO.length:Int)) then
    (bM a1.aO v27).bind λx35=>
    (lG n v28 x35).bind λx41=>
    qB n a1 c30 (i64.wrap (v27+1)) x41.2
   else
    some v28
@[go_sem] def qC (fX:aS->aF->Option aS) (a1:aF):Nat->Int->aS->Option aS
 | 0,_,_=>none
 | c6+1,v3,v4=>
   if decide (v3<(a1.aO.length:Int)) then
    (bM a1.aO v3).bind λx11=>
    (fX v4 x11).bind λx17=>
    qC fX a1 c6 (i64.wrap (v3+1)) x17
   else
    some v4
def oD (fX:aS->aF->Option aS) (n:Nat) (a0:aS) (a1:aF):Option aS:=
 (qC fX a1 n 0 a0).bind λy5=>
 (if decide (a1.fR=([105,110,100,101,120]:cF)) then
    some true
   else
    if decide (a1.fR=([47]:cF)) then
     some true
    else
     some (decide (a1.fR=([37]:cF)))).bind λy43=>
 if y43 then
  (qB n a1 n 0 y5).bind λy53=>
  some y53
 else
  some y5
def lI:Nat->aS->aF->Option aS
 | 0=>λ_ _=>none
 | n+1=>oD (lI n) n
def El (a0:(List Int)) (a1:Int) (a2:Int):Option Int:=
 if decide ((i64.wrap a1)<(a0.length:Int)) then
  (bM a0 a1).bind λx2=>
  some x2
 else
  some a2
def qJ (a0:Int) (a1:Int) (a2:Int):Option (Int × Int):=
 some ((u32.wrap (u64.wrap ((u64.wrap ((u64.wrap a0)+(u64.wrap a1)))+(u64.wrap a2)))),(u32.wrap (Hs .u64 (u64.wrap ((u64.wrap ((u64.wrap a0)+(u64.wrap a1)))+(u64.wrap a2))) 32)))
def Fp (a0:bW) (a1:bW):Option bW:=
 (qJ a0.BI a1.BI 0).bind λx4=>
 (qJ a0.qN a1.qN 0).bind λx6=>
 if x6.2 == 1 then
  some (bW.mk 0 4294967295)
 else
  some (bW.mk x4.1 x6.1)
def rX (a0:Int) (a1:Int):Option (Int × Int):=
 some ((u32.wrap (Hs .u64 (u64.wrap ((u64.wrap a0)*(u64.wrap a1))) 32)),(u32.wrap (u64.wrap ((u64.wrap a0)*(u64.wrap a1)))))
def xG (a0:bW) (a1:bW):Option bW:=
 (rX a0.qN a1.qN).bind λx4=>
 if decide (0<x4.1) then
  some (bW.mk 0 4294967295)
 else
  some (bW.mk (u32.wrap (a0.BI*a1.BI)) x4.2)
def wI (a0:Int) (a1:bW) (a2:bW):Option bW:=
 if a0 == 8 then
  some (bW.mk 0 1)
 else
  if a0 == 9 then
   some (bW.mk 0 1)
  else
   if a0 == 7 then
    some (bW.mk 0 (min a1.qN a2.qN))
   else
    if a0 == 13 then
     (Fp a1 a2).bind λx8=>
     some x8
    else
     if a0 == 14 then
      if decide (a2.qN<=a1.BI) then
       some (bW.mk (u32.wrap (a1.BI - a2.qN)) (u32.wrap (a1.qN - a2.BI)))
      else
       some (bW.mk 0 4294967295)
     else
      if a0 == 15 then
       (xG a1 a2).bind λx13=>
       some x13
      else
       if a0 == 16 then
        gY ((max a2.qN 1) ≠ 0) <|
        gY ((max a2.BI 1) ≠ 0) <|
        some (bW.mk (u32.wrap (a1.BI.tdiv (max a2.qN 1))) (u32.wrap (a1.qN.tdiv (max a2.BI 1))))
       else
        if a0 == 17 then
         some (bW.mk 0 (min a1.qN (u32.wrap ((max a2.qN 1) - 1))))
        else
         if a0 == 11 then
          some (bW.mk 0 a1.qN)
         else
          some (bW.mk 0 4294967295)
def nR (sP:aM->(List Int)->(List Int)->Option bW) (n:Nat) (a0:aM) (a1:(List Int)) (a2:(List Int)):Option bW:=
 if a0.fR == 1 then
  some (bW.mk a0.N_ a0.N_)
 else
  if a0.fR == 2 then
   (El a1 a0.N_ 0).bind λx5=>
   (El a2 a0.N_ 4294967295).bind λx6=>
   some (bW.mk x5 x6)
  else
   if a0.fR == 3 then
    some (bW.mk 0 4294967295)
   else
    if a0.fR == 4 then
     some (bW.mk 0 4294967295)
    else
     (bM a0.aO 0).bind λx11=>
     (sP x11 a1 a2).bind λx12=>
     (bM a0.aO 1).bind λx13=>
     (sP x13 a1 a2).bind λx14=>
     (wI a0.fR x12 x14).bind λx15=>
     some x15
def tD:Nat->aM->(List Int)->(List Int)->Option bW
 | 0=>λ_ _ _=>none
 | n+1=>nR (tD n) n
def zK (n:Nat) (a0:aM) (a1:(List Int)) (a2:(List Int)):Option (Int × Int):=
 (tD n a0 a1 a2).bind λx2=>
 some (x2.BI,x2.qN)
def eZ (n:Nat) (a0:bL) (a1:aF):Option (Int × Int):=
 (kG n a0 a1).bind λx3=>
 if x3.2 != 0 then
  some (0,4294967295)
 else
  (zK n x3.1 a0.lW a0.iG).bind λx7=>
  some (x7.1,x7.2)
def lH (n:Nat) (a0:aS) (a1:aB):Option aS:=
 (bM a1.aO 0).bind λx2=>
 (eZ n a0.c_ x2).bind λx3=>
 (bM a1.aO 1).bind λx10=>
 (eZ n a0.c_ x10).bind λx11=>
 (Em (i64.wrap (4+(a0.c_.gV.length:Int)))).bind λx18=>
 (bM a0.c_.bO a1.fI).bind λx19=>
 gY (a0.c_.gV.length+[a1.fI].length<=1073741824) <|
 gY (a0.c_.lW.length+[x3.1].length<=1073741824) <|
 gY (a0.c_.iG.length+[(max x3.1 (u32.wrap ((max x11.2 1) - 1)))].length<=1073741824) <|
 some ({ a0 with c_:=(bL.mk (a0.c_.bO.set a1.fI.toNat x18) (a0.c_.gV++[a1.fI]) (a0.c_.lW++[x3.1]) (a0.c_.iG++[(max x3.1 (u32.wrap ((max x11.2 1) - 1)))])) }:aS)
@[go_sem] def mQ (n:Nat) (x11:aB):Nat->Int->aS->Option aS
 | 0,_,_=>none
 | c21+1,v18,v19=>
   if decide (v18<(x11.aO.length:Int)) then
    ((bM x11.aO v18).bind λx27=>
      (lI n v19 x27).bind λx33=>
      (if decide (x11.fR=([108,101,116]:cF)) then
         some true
        else
         if decide (x11.fR=([105,102]:cF)) then
          some true
         else
          if decide (x11.fR=([102,111,114]:cF)) then
           some true
          else
           if decide (x11.fR=([112,117,116]:cF)) then
            some (v18 == 0)
           else
            some false).bind λy35=>
      if y35 then
       (lG n x33 x27).bind λx44=>
       if decide (x11.fR=([108,101,116]:cF)) then
        (bM x44.2.c_.bO x11.fI).bind λx48=>
        some ({ x44.2 with c_:=({ x44.2.c_ with bO:=(x44.2.c_.bO.set x11.fI.toNat x44.1) }:bL) }:aS)
       else
        some x44.2
      else
       some x33).bind λy26=>
    mQ n x11 c21 (i64.wrap (v18+1)) y26
   else
    some v19
@[go_sem] def fZ (dL:aS->(List aB)->Option aS) (n:Nat) (a1:(List aB)):Nat->Int->aS->Option (aS ⊕ aS)
 | 0,_,_=>none
 | c5+1,v2,v3=>
   if decide (v2<(a1.length:Int)) then
    ((bM a1 v2).bind λx11=>
      (mQ n x11 n 0 v3).bind λy20=>
      (if y20.e_ == 0 then
         some (decide (x11.fR=([102,111,114]:cF)))
        else
         some false).bind λy79=>
      if y79 then
       (lH n y20 x11).bind λx85=>
       if x85.e_ != 0 then
        some (.inr x85)
       else
        (dL x85 x11.bQ).bind λx88=>
        (dL x88 x11.eW).bind λx90=>
        some (.inl x90)
      else
       if y20.e_ != 0 then
        some (.inr y20)
       else
        (dL y20 x11.bQ).bind λx93=>
        (dL x93 x11.eW).bind λx95=>
        some (.inl x95):Option (aS ⊕ aS)).bind λy10=>
    y10.elim (λy10a=>
     fZ dL n a1 c5 (i64.wrap (v2+1)) y10a) (λy10a=>
     some (.inr y10a))
   else
    some (.inl v3)
def nH (dL:aS->(List aB)->Option aS) (n:Nat) (a0:aS) (a1:(List aB)):Option aS:=
 (fZ dL n a1 n 0 a0).bind λy4=>
 y4.elim (λy4a=>
  some y4a) (λy4a=>
  some y4a)
def fN:Nat->aS->(List aB)->Option aS
 | 0=>λ_ _=>none
 | n+1=>nH (fN n) n
@[go_sem] def rY (a0:aT):Nat->Int->aS->Option aS
 | 0,_,_=>none
 | c29+1,v26,v27=>
   if decide (v26<((a0.aX.take a0.bC.toNat).length:Int)) then
    ((bM (a0.aX.take a0.bC.toNat) v26).bind λx35=>
      if x35.bS == 1 then
       (Em v26).bind λx42=>
       (bM v27.c_.bO v26).bind λx43=>
       some ({ v27 with c_:=({ v27.c_ with bO:=(v27.c_.bO.set v26.toNat x42) }:bL) }:aS)
      else
       some v27).bind λy34=>
    rY a0 c29 (i64.wrap (v26+1)) y34
   else
    some v27
def tJ (n:Nat) (a0:aT):Option (bL × Int):=
 (if decide (4<a0.bC) then
    some true
   else
    (wU n a0.bQ).bind λx5=>
    some (decide (250<x5))).bind λy3=>
 if y3 then
  some ((bL.mk [] [] [] []),136)
 else
  (tA [4294967295] 4).bind λx11=>
  gY (0<=(a0.aX.length:Int)/\(a0.aX.length:Int)<=1073741824) <|
  gY (0<=a0.bC/\a0.bC<=(a0.aX.length:Int)) <|
  (rY a0 n 0 (aS.mk (bL.mk (List.replicate a0.aX.length aM.Z) [] [0,0,0,0] x11) 0)).bind λy28=>
  (fN n y28 a0.bQ).bind λx60=>
  if x60.e_ != 0 then
   some ((bL.mk [] [] [] []),x60.e_)
  else
   some (x60.c_,0)
def lM (a0:bL) (a1:Int):Option Int:=
 (if decide (a1<0) then
    some true
   else
    if decide ((a0.bO.length:Int)<=a1) then
     some true
    else
     (bM a0.bO a1).bind λx5=>
     some (x5.fR != 2)).bind λy2=>
 if y2 then
  some (-1:Int)
 else
  (bM a0.bO a1).bind λx14=>
  (if decide ((i64.wrap x14.N_)<4) then
     if (i64.wrap x14.N_) == a1 then
      some true
     else
      if decide (4<=(i64.wrap x14.N_)) then
       if decide ((i64.wrap ((i64.wrap x14.N_) - 4))<(a0.gV.length:Int)) then
        (bM a0.gV (i64.wrap ((i64.wrap x14.N_) - 4))).bind λx24=>
        some (x24 == a1)
       else
        some false
      else
       some false
    else
     if decide (4<=(i64.wrap x14.N_)) then
      if decide ((i64.wrap ((i64.wrap x14.N_) - 4))<(a0.gV.length:Int)) then
       (bM a0.gV (i64.wrap ((i64.wrap x14.N_) - 4))).bind λx31=>
       some (x31 == a1)
      else
       some false
     else
      some false).bind λy19=>
  if y19 then
   some (i64.wrap x14.N_)
  else
   some (-1:Int)
def lP (n:Nat):Option Bool:=
 (mY n ([102,110,32,102,40,112,58,32,112,117,98,41,32,123,32,102,111,114,32,105,32,105,110,32,48,32,46,46,32,112,32,123,32,108,101,116,32,113,32,61,32,105,32,42,32,50,59,32,125,32,125]:cF) 0).bind λx1=>
 (tJ n x1.1).bind λx5=>
 (if !x1.2.2 then
    some true
   else
    if x5.2 != 0 then
     some true
    else
     some ((x5.1.bO.length:Int) != 3)).bind λy8=>
 if y8 then
  some false
 else
  (bM x5.1.bO 2).bind λx15=>
  (kP n x15 [0,0,0,0,21]).bind λx16=>
  (if x16.2=true then
     if x16.1 == 42 then
      (lM x5.1 1).bind λx26=>
      some (x26 == 4)
     else
      some false
    else
     some false).bind λy23=>
  some y23
@[go_sem] def pV (x10:aB):Nat->(List aF)->Int->Option (List aF)
 | 0,_,_=>none
 | c20+1,v17,v18=>
   if decide (v18<(x10.aO.length:Int)) then
    ((bM x10.aO v18).bind λx26=>
      (if decide (x10.fR=([108,101,116]:cF)) then
         some true
        else
         if decide (x10.fR=([105,102]:cF)) then
          some true
         else
          if decide (x10.fR=([102,111,114]:cF)) then
           some true
          else
           if decide (x10.fR=([112,117,116]:cF)) then
            some (v18 == 0)
           else
            some false).bind λy32=>
      if y32 then
       gY (v17.length+[x26].length<=1073741824) <|
       some (v17++[x26])
      else
       some v17).bind λy25=>
    pV x10 c20 y25 (i64.wrap (v18+1))
   else
    some v17
@[go_sem] def pW (fB:(List aB)->Option (List aF)) (n:Nat) (a0:(List aB)):Nat->(List aF)->Int->Option (List aF)
 | 0,_,_=>none
 | c5+1,v2,v3=>
   if decide (v3<(a0.length:Int)) then
    (bM a0 v3).bind λx10=>
    (pV x10 n v2 0).bind λy19=>
    (fB x10.bQ).bind λx55=>
    gY (y19.length+x55.length<=1073741824) <|
    (fB x10.eW).bind λx59=>
    gY ((y19++x55).length+x59.length<=1073741824) <|
    pW fB n a0 c5 ((y19++x55)++x59) (i64.wrap (v3+1))
   else
    some v2
def nU (fB:(List aB)->Option (List aF)) (n:Nat) (a0:(List aB)):Option (List aF):=
 (pW fB n a0 n [] 0).bind λy4=>
 some y4
def iW:Nat->(List aB)->Option (List aF)
 | 0=>λ_=>none
 | n+1=>nU (iW n) n
def iY (n:Nat) (a0:bL) (a1:aF) (a2:Int):Option Bool:=
 (eZ n a0 a1).bind λx3=>
 some (decide ((i64.wrap x3.2)<a2))
@[go_sem] def kX (n:Nat) (x77:(List aF)) (x9:(bL × Int)) (v19:(List Int)) (a3:Int):Nat->Int->Option (Unit ⊕ Bool)
 | 0,_=>none
 | c82+1,v80=>
   if decide (v80<(x77.length:Int)) then
    (bM x77 v80).bind λx87=>
    (kG n x9.1 x87).bind λx93=>
    if x93.2 != 0 then
     some (.inr false)
    else
     (kP n x93.1 v19).bind λx97=>
     (if x97.2=true then
        (iY n x9.1 x87 a3).bind λx101=>
        if x101 then
         some (decide (a3<=(i64.wrap x97.1)))
        else
         some false
       else
        some false).bind λy99=>
     if y99 then
      some (.inr false)
     else
      kX n x77 x9 v19 a3 c82 (i64.wrap (v80+1))
   else
    some (.inl ())
@[go_sem] def kY (x9:(bL × Int)):Nat->Int->Option (Unit ⊕ Bool)
 | 0,_=>none
 | c61+1,v59=>
   if decide (v59<(x9.1.lW.length:Int)) then
    (bM x9.1.lW v59).bind λx66=>
    (bM x9.1.iG v59).bind λx67=>
    if decide (x67<x66) then
     some (.inr true)
    else
     kY x9 c61 (i64.wrap (v59+1))
   else
    some (.inl ())
@[go_sem] def kZ (x9:(bL × Int)) (a2:(List Int)):Nat->(List Int)->Int->Option (List Int)
 | 0,_,_=>none
 | c22+1,v19,v20=>
   if decide (v20<(x9.1.lW.length:Int)) then
    ((bM x9.1.lW v20).bind λx28=>
      if decide (v20<(a2.length:Int)) then
       (bM a2 v20).bind λx34=>
       (bM x9.1.iG v20).bind λx39=>
       gY (v19.length+[(min (max x28 x34) (max x39 x28))].length<=1073741824) <|
       some (v19++[(min (max x28 x34) (max x39 x28))])
      else
       (bM x9.1.iG v20).bind λx47=>
       gY (v19.length+[(min x28 (max x47 x28))].length<=1073741824) <|
       some (v19++[(min x28 (max x47 x28))])).bind λy27=>
    kZ x9 a2 c22 y27 (i64.wrap (v20+1))
   else
    some v19
def jX (n:Nat) (a0:cF) (a1:Int) (a2:(List Int)) (a3:Int):Option Bool:=
 (lP n).bind λx1=>
 if !x1 then
  some false
 else
  (mY n a0 a1).bind λx4=>
  if !x4.2.2 then
   some true
  else
   (tJ n x4.1).bind λx9=>
   (if x9.2 != 0 then
      some true
     else
      some ((x9.1.lW.length:Int) != (x9.1.iG.length:Int))).bind λy12=>
   if y12 then
    some (x9.2 != 0)
   else
    (kZ x9 a2 n [] 0).bind λy21=>
    (kY x9 n 0).bind λy141=>
    y141.elim (λy141a=>
     (iW n x4.1.bQ).bind λx189=>
     (kX n x189 x9 y21 a3 n 0).bind λy193=>
     y193.elim (λy193a=>
      some true) (λy193a=>
      some y193a)) (λy141a=>
     some y141a)
