import Derived.Test.YtnnomaboaiokeaaGreatDoorLS3
namespace Go.Proofs.YtnnomaboaiokeaaGreatDoor.Abs
open IntKind (i64 u32 u64 u8)
open Go.RowKit
set_option linter.all false
structure bW where
 HI:Int
 yN:Int
def bW.C (x:bW):List V:=[.lit (.int .u32 x.HI),.lit (.int .u32 x.yN)]
@[go_sem] theorem bW.C_eq (x:bW):bW.C x=[.lit (.int .u32 x.HI),.lit (.int .u32 x.yN)]:=rI rfl
structure bJ where
 Pv:cJ
 PQ:Int
def bJ.C (x:bJ):List V:=[.lit (.string (bs x.Pv)),.lit (.int .i64 x.PQ)]
@[go_sem] theorem bJ.C_eq (x:bJ):bJ.C x=[.lit (.string (bs x.Pv)),.lit (.int .i64 x.PQ)]:=rI rfl
structure bX where
 Ih:cJ
 op_:Int
def bX.C (x:bX):List V:=[.lit (.string (bs x.Ih)),.lit (.int .i64 x.op_)]
@[go_sem] theorem bX.C_eq (x:bX):bX.C x=[.lit (.string (bs x.Ih)),.lit (.int .i64 x.op_)]:=rI rfl
structure dE where
 bT:Int
 fC:Int
 cW:cJ
 pO:Int
def dE.C (x:dE):List V:=[.lit (.int .i64 x.bT),.lit (.int .i64 x.fC),.lit (.string (bs x.cW)),.lit (.int .u32 x.pO)]
@[go_sem] theorem dE.C_eq (x:dE):dE.C x=[.lit (.int .i64 x.bT),.lit (.int .i64 x.fC),.lit (.string (bs x.cW)),.lit (.int .u32 x.pO)]:=rI rfl
structure aD where
 bT:Int
 fC:Int
 cW:cJ
 pO:Int
 aP:(List aD)
mutual
def aD.C:aD->List V
 | ⟨a0,a1,a2,a3,a4⟩=>[.lit (.int .i64 a0),.lit (.int .i64 a1),.lit (.string (bs a2)),.lit (.int .u32 a3),.list .none (aD.CL a4)]
def aD.CL:List aD->List (List V)
 | []=>[]
 | x::l=>aD.C x::aD.CL l
end
theorem aD.CL_eq (l:List aD):aD.CL l=l.map aD.C:=by
 induction l with
 | nil=>rfl
 | cons x l ih=>rw [aD.CL,ih];rfl
@[go_sem] theorem aD.C_eq (x:aD):aD.C x=[.lit (.int .i64 x.bT),.lit (.int .i64 x.fC),.lit (.string (bs x.cW)),.lit (.int .u32 x.pO),.list .none (x.aP.map aD.C)]:=by
 cases x;simp only [aD.C,aD.CL_eq]
structure aE where
 l_:(List dE)
 fL:Int
 yW:Int
 e_:Int
 Cw:Int
def aE.C (x:aE):List V:=[.list .none (x.l_.map dE.C),.lit (.int .i64 x.fL),.lit (.int .i64 x.yW),.lit (.int .i64 x.e_),.lit (.int .i64 x.Cw)]
@[go_sem] theorem aE.C_eq (x:aE):aE.C x=[.list .none (x.l_.map dE.C),.lit (.int .i64 x.fL),.lit (.int .i64 x.yW),.lit (.int .i64 x.e_),.lit (.int .i64 x.Cw)]:=rI rfl
structure aL where
 fO:cJ
 bT:Int
 pB:Int
def aL.C (x:aL):List V:=[.lit (.string (bs x.fO)),.lit (.int .i64 x.bT),.lit (.int .i64 x.pB)]
@[go_sem] theorem aL.C_eq (x:aL):aL.C x=[.lit (.string (bs x.fO)),.lit (.int .i64 x.bT),.lit (.int .i64 x.pB)]:=rI rfl
structure aF where
 iB:cJ
 cK:Int
 N_:Int
 gC:Int
 aP:(List aF)
 fC:Int
mutual
def aF.C:aF->List V
 | ⟨a0,a1,a2,a3,a4,a5⟩=>[.lit (.string (bs a0)),.lit (.int .i64 a1),.lit (.int .u32 a2),.lit (.int .i64 a3),.list .none (aF.CL a4),.lit (.int .i64 a5)]
def aF.CL:List aF->List (List V)
 | []=>[]
 | x::l=>aF.C x::aF.CL l
end
theorem aF.CL_eq (l:List aF):aF.CL l=l.map aF.C:=by
 induction l with
 | nil=>rfl
 | cons x l ih=>rw [aF.CL,ih];rfl
@[go_sem] theorem aF.C_eq (x:aF):aF.C x=[.lit (.string (bs x.iB)),.lit (.int .i64 x.cK),.lit (.int .u32 x.N_),.lit (.int .i64 x.gC),.list .none (x.aP.map aF.C),.lit (.int .i64 x.fC)]:=by
 cases x;simp only [aF.C,aF.CL_eq]
structure aC where
 iB:cJ
 gC:Int
 iC:Int
 aP:(List aF)
 bV:(List aC)
 gT:(List aC)
 fC:Int
mutual
def aC.C:aC->List V
 | ⟨a0,a1,a2,a3,a4,a5,a6⟩=>[.lit (.string (bs a0)),.lit (.int .i64 a1),.lit (.int .i64 a2),.list .none (a3.map aF.C),.list .none (aC.CL a4),.list .none (aC.CL a5),.lit (.int .i64 a6)]
def aC.CL:List aC->List (List V)
 | []=>[]
 | x::l=>aC.C x::aC.CL l
end
theorem aC.CL_eq (l:List aC):aC.CL l=l.map aC.C:=by
 induction l with
 | nil=>rfl
 | cons x l ih=>rw [aC.CL,ih];rfl
@[go_sem] theorem aC.C_eq (x:aC):aC.C x=[.lit (.string (bs x.iB)),.lit (.int .i64 x.gC),.lit (.int .i64 x.iC),.list .none (x.aP.map aF.C),.list .none (x.bV.map aC.C),.list .none (x.gT.map aC.C),.lit (.int .i64 x.fC)]:=by
 cases x;simp only [aC.C,aC.CL_eq]
structure aS where
 fO:cJ
 dG:Bool
 bR:Int
 bC:Int
 aX:(List aL)
 bV:(List aC)
def aS.C (x:aS):List V:=[.lit (.string (bs x.fO)),.lit (.bool x.dG),.lit (.int .i64 x.bR),.lit (.int .i64 x.bC),.list .none (x.aX.map aL.C),.list .none (x.bV.map aC.C)]
@[go_sem] theorem aS.C_eq (x:aS):aS.C x=[.lit (.string (bs x.fO)),.lit (.bool x.dG),.lit (.int .i64 x.bR),.lit (.int .i64 x.bC),.list .none (x.aX.map aL.C),.list .none (x.bV.map aC.C)]:=rI rfl
structure bL where
 bF:(List aS)
def bL.C (x:bL):List V:=[.list .none (x.bF.map aS.C)]
@[go_sem] theorem bL.C_eq (x:bL):bL.C x=[.list .none (x.bF.map aS.C)]:=rI rfl
def bL.Z:bL:=⟨[]⟩
structure aH where
 e_:Int
 Cw:Int
structure aG where
 p_:bL
 f_:Int
 bI:List Int
 cB:List (List Int)
 fL:Int
def aG.Z:aG:=⟨bL.Z,-1,[],[],0⟩
def qB (F fp S C:V) (x:aG) (y:aH):List V:=[F,fp,S,C,.lit (.int .i64 x.fL),.lit (.int .i64 y.e_),.lit (.int .i64 y.Cw)]
@[go_sem] theorem ckC_eq {F fp S C:V} {x:aG} {y:aH}:qB F fp S C x y=[F,fp,S,C,.lit (.int .i64 x.fL),.lit (.int .i64 y.e_),.lit (.int .i64 y.Cw)]:=rI rfl
def eZ:List cJ:=[[45,62],[46,46],[61,61],[60,60,60],[60,60],[62,62],[60],[40],[41],[123],[125],[91],[93],[44],[59],[58],[61],[43],[45],[42],[47],[37],[38],[124],[94],[126]]
@[go_sem] theorem RY:(cA cS eZ).length=26:=by kernel_rfl
@[go_sem] theorem Rc:(cA cS eZ).take 26=(cA cS eZ):=by kernel_rfl
def cE:List cJ:=[[102,110],[101,120,112,111,114,116],[108,101,116],[118,97,114],[97,114,114],[105,102],[101,108,115,101],[102,111,114],[105,110],[114,101,116,117,114,110],[112,117,98],[117,51,50],[117,54,52]]
@[go_sem] theorem PC:(cA cS cE).length=13:=by kernel_rfl
@[go_sem] theorem Oc:Cq 1 13 (cA cS cE)=cE.map cS:=rI rfl
def cT:List (List cJ):=[[[124],[],[]],[[94],[],[]],[[38],[],[]],[[61,61],[60],[]],[[60,60],[62,62],[60,60,60]],[[43],[45],[]],[[42],[47],[37]]]
def cL:List bJ:=[(bJ.mk [115,101,108,101,99,116] 3),(bJ.mk [108,111,110,103] 1),(bJ.mk [108,111] 1),(bJ.mk [104,105] 1),(bJ.mk [119,105,100,101] 2)]
@[go_sem] theorem PF:(cA bJ.C cL).length=10:=by kernel_rfl
@[go_sem] theorem OM:(cA bJ.C cL).take 10=(cA bJ.C cL):=by kernel_rfl
@[go_sem] theorem Nv:(cA bJ.C cL).map V.shared=(cA bJ.C cL):=rI rfl
def dP:List bX:=[(bX.mk [124] 5),(bX.mk [94] 6),(bX.mk [38] 7),(bX.mk [61,61] 8),(bX.mk [60] 9),(bX.mk [60,60] 10),(bX.mk [62,62] 11),(bX.mk [60,60,60] 12),(bX.mk [43] 13),(bX.mk [45] 14),(bX.mk [42] 15),(bX.mk [47] 16),(bX.mk [37] 17),(bX.mk [110,111,116] 3),(bX.mk [110,101,103] 4)]
@[go_sem] theorem Re:(cA bX.C dP).length=30:=by kernel_rfl
@[go_sem] theorem PE:(cA bX.C dP).take 30=(cA bX.C dP):=by kernel_rfl
@[go_sem] theorem Od:(cA bX.C dP).map V.shared=(cA bX.C dP):=rI rfl
def AU (a0:Int):Option Bool:=
 (if a0 == 32 then
    some true
   else
    if a0 == 9 then
     some true
    else
     if a0 == 13 then
      some true
     else
      some (a0 == 10)).bind λy1=>
 some y1
def fA (a0:cJ) (a1:cJ):Option Bool:=
 (if decide ((a1.length:Int)<=(a0.length:Int)) then
    hY (0<=(a1.length:Int)/\(a1.length:Int)<=(a0.length:Int)) <|
    some (decide ((a0.take (a1.length:Int).toNat)=a1))
   else
    some false).bind λy1=>
 some y1
def nO (a0:cJ) (a1:cJ):Option Bool:=
 (fA a0 a1).bind λx1=>
 some x1
def oB (a0:cJ) (a1:Int):Option Int:=some (Lib.indexByte a0 a1.toNat.toUInt8)
def lN (a0:cJ) (a1:Int):Option Int:=
 (oB a0 a1).bind λx1=>
 some x1
def nM (a0:cJ) (a1:Int):Option Int:=
 (lN a0 a1).bind λx1=>
 some x1
@[go_sem] def zY (a0:cJ):Nat->Int->Option (Int ⊕ Int)
 | 0,_=>none
 | c4+1,v2=>
   if decide (v2<(a0.length:Int)) then
    (bN a0 v2).bind λx9=>
    (AU (x9.toNat:Int)).bind λx10=>
    if x10 then
     zY a0 c4 (i64.wrap (v2+1))
    else
     hY (0<=v2/\v2<=(a0.length:Int)) <|
     (nO (a0.drop v2.toNat) ([47,47]:cJ)).bind λx17=>
     if x17 then
      hY (0<=v2/\v2<=(a0.length:Int)) <|
      (nM (a0.drop v2.toNat) 10).bind λx22=>
      if decide (x22<0) then
       some (.inr (a0.length:Int))
      else
       zY a0 c4 (i64.wrap (v2+x22))
     else
      some (.inr v2)
   else
    some (.inl v2)
def Bt (n:Nat) (a0:cJ) (a1:Int):Option Int:=
 (zY a0 n a1).bind λy3=>
 y3.elim (λy3a=>
  some y3a) (λy3a=>
  some y3a)
def vR (a0:Int):Option Bool:=
 (if decide (97<=a0) then
    if decide (a0<=122) then
     some true
    else
     some (a0 == 95)
   else
    some (a0 == 95)).bind λy1=>
 some y1
def yY (a0:Int):Option Bool:=
 (if decide (48<=a0) then
    some (decide (a0<=57))
   else
    some false).bind λy1=>
 some y1
@[go_sem] def Ck (a0:cJ):Nat->Int->Option (Unit ⊕ cJ)
 | 0,_=>none
 | c4+1,v2=>
   if decide (v2<(a0.length:Int)) then
    ((bN a0 v2).bind λx10=>
      (vR (x10.toNat:Int)).bind λx11=>
      if !x11 then
       (yY (x10.toNat:Int)).bind λx18=>
       some (!x18)
      else
       some false).bind λy9=>
    if y9 then
     hY (0<=v2/\v2<=(a0.length:Int)) <|
     some (.inr (a0.take v2.toNat))
    else
     Ck a0 c4 (i64.wrap (v2+1))
   else
    some (.inl ())
def DG (n:Nat) (a0:cJ):Option cJ:=
 (Ck a0 n 0).bind λy3=>
 y3.elim (λy3a=>
  some a0) (λy3a=>
  some y3a)
def iQ (a0:cJ) (a1:cJ):Option (cJ × Bool):=
 (fA a0 a1).bind λx1=>
 if !x1 then
  some (a0,false)
 else
  hY (0<=(a1.length:Int)/\(a1.length:Int)<=(a0.length:Int)) <|
  some ((a0.drop (a1.length:Int).toNat),true)
def pP (a0:cJ) (a1:cJ):Option (cJ × Bool):=
 (iQ a0 a1).bind λx1=>
 some (x1.1,x1.2)
@[go_sem] def AH (x1:(cJ × Bool)):Nat->Int->Int->Option (Int ⊕ (Int × Bool))
 | 0,_,_=>none
 | c8+1,v5,v6=>
   if decide (v6<(x1.1.length:Int)) then
    hY ((0:Int)<=16/\16<=(([48,49,50,51,52,53,54,55,56,57,97,98,99,100,101,102]:cJ).length:Int)) <|
    (bN x1.1 v6).bind λx13=>
    (nM (([48,49,50,51,52,53,54,55,56,57,97,98,99,100,101,102]:cJ).take (16:Int).toNat) (x13.toNat:Int)).bind λx14=>
    (if decide (x14<0) then
       some true
      else
       some (decide (4294967295<(i64.wrap ((i64.wrap (v5*16))+x14))))).bind λy22=>
    if y22 then
     some (.inr (0,false))
    else
     AH x1 c8 (i64.wrap ((i64.wrap (v5*16))+x14)) (i64.wrap (v6+1))
   else
    some (.inl v5)
@[go_sem] def AG (a0:cJ):Nat->Int->Int->Option (Int ⊕ (Int × Bool))
 | 0,_,_=>none
 | c32+1,v29,v30=>
   if decide (v30<(a0.length:Int)) then
    hY ((0:Int)<=10/\10<=(([48,49,50,51,52,53,54,55,56,57,97,98,99,100,101,102]:cJ).length:Int)) <|
    (bN a0 v30).bind λx37=>
    (nM (([48,49,50,51,52,53,54,55,56,57,97,98,99,100,101,102]:cJ).take (10:Int).toNat) (x37.toNat:Int)).bind λx38=>
    (if decide (x38<0) then
       some true
      else
       some (decide (4294967295<(i64.wrap ((i64.wrap (v29*10))+x38))))).bind λy46=>
    if y46 then
     some (.inr (0,false))
    else
     AG a0 c32 (i64.wrap ((i64.wrap (v29*10))+x38)) (i64.wrap (v30+1))
   else
    some (.inl v29)
def AT (n:Nat) (a0:cJ):Option (Int × Bool):=
 (pP a0 ([48,120]:cJ)).bind λx1=>
 if x1.2=true then
  (AH x1 n 0 0).bind λy7=>
  y7.elim (λy7a=>
   some ((u32.wrap y7a),(decide (x1.1 ≠ ([]:cJ))))) (λy7a=>
   some y7a)
 else
  (AG a0 n 0 0).bind λy31=>
  y31.elim (λy31a=>
   some ((u32.wrap y31a),(decide (a0 ≠ ([]:cJ))))) (λy31a=>
   some y31a)
@[go_sem] def Cn (a0:cJ):Nat->Int->Option (Unit ⊕ cJ)
 | 0,_=>none
 | c4+1,v2=>
   if decide (v2<26) then
    (bN eZ v2).bind λx9=>
    (nO a0 x9).bind λx17=>
    if x17 then
     some (.inr x9)
    else
     Cn a0 c4 (i64.wrap (v2+1))
   else
    some (.inl ())
def DH (n:Nat) (a0:cJ):Option cJ:=
 (Cn a0 n 0).bind λy3=>
 y3.elim (λy3a=>
  some ([]:cJ)) (λy3a=>
  some y3a)
def DI (n:Nat) (a0:cJ) (a1:Int):Option (dE × Int):=
 hY (0<=a1/\a1<=(a0.length:Int)) <|
 (DG n (a0.drop a1.toNat)).bind λx2=>
 (bN a0 a1).bind λx7=>
 (vR (x7.toNat:Int)).bind λx8=>
 if x8 then
  if decide (32<(x2.length:Int)) then
   some ((dE.mk 0 0 [] 0),102)
  else
   some ((dE.mk 1 a1 x2 0),0)
 else
  (yY (x7.toNat:Int)).bind λx16=>
  if x16 then
   (AT n x2).bind λx19=>
   if !x19.2 then
    some ((dE.mk 0 0 [] 0),101)
   else
    some ((dE.mk 2 a1 x2 x19.1),0)
  else
   hY (0<=a1/\a1<=(a0.length:Int)) <|
   (DH n (a0.drop a1.toNat)).bind λx22=>
   if decide (x22=([]:cJ)) then
    some ((dE.mk 0 0 [] 0),100)
   else
    some ((dE.mk 3 a1 x22 0),0)
@[go_sem] def zG (n:Nat) (a0:cJ):Nat->(List dE)->Int->Option ((List dE) ⊕ ((List dE) × Int × Int))
 | 0,_,_=>none
 | c8+1,v5,v6=>
   if decide (v6<(a0.length:Int)) then
    (DI n a0 v6).bind λx13=>
    if x13.2 != 0 then
     some (.inr ([],x13.2,v6))
    else
     hY (v5.length+[x13.1].length<=1073741824) <|
     (Bt n a0 (i64.wrap (v6+(x13.1.cW.length:Int)))).bind λx20=>
     zG n a0 c8 (v5++[x13.1]) x20
   else
    some (.inl v5)
def yX (n:Nat) (a0:cJ):Option ((List dE) × Int × Int):=
 if decide (65536<(a0.length:Int)) then
  some ([],161,0)
 else
  (Bt n a0 0).bind λx2=>
  (zG n a0 n [] x2).bind λy7=>
  y7.elim (λy7a=>
   hY (y7a.length+[(dE.mk 4 (a0.length:Int) [] 0)].length<=1073741824) <|
   some ((y7a++[(dE.mk 4 (a0.length:Int) [] 0)]),0,0)) (λy7a=>
   some y7a)
def eB (a0:aE):Option dE:=
 (bN a0.l_ a0.fL).bind λx2=>
 some x2
def gO (a0:aE) (a1:Int):Option aE:=
 if a0.e_ == 0 then
  (eB a0).bind λx2=>
  some ({ a0 with e_:=a1,Cw:=x2.fC }:aE)
 else
  some a0
def eL (a0:aE) (a1:Int):Option (aD × aE):=
 if decide (16384<(i64.wrap (a0.yW+1))) then
  (gO ({ a0 with yW:=(i64.wrap (a0.yW+1)) }:aE) 136).bind λx3=>
  (eB x3).bind λx5=>
  some ((aD.mk a1 x5.fC [] 0 []),x3)
 else
  (eB ({ a0 with yW:=(i64.wrap (a0.yW+1)) }:aE)).bind λx7=>
  some ((aD.mk a1 x7.fC [] 0 []),({ a0 with yW:=(i64.wrap (a0.yW+1)) }:aE))
@[go_sem] def kU (a0:(List cJ)) (a1:cJ):Nat->Int->Option (Unit ⊕ Int)
 | 0,_=>none
 | c4+1,v2=>
   if decide (v2<(a0.length:Int)) then
    (bN a0 v2).bind λx9=>
    if decide (a1=x9) then
     some (.inr v2)
    else
     kU a0 a1 c4 (i64.wrap (v2+1))
   else
    some (.inl ())
def jW (n:Nat) (a0:(List cJ)) (a1:cJ):Option Int:=
 (kU a0 a1 n 0).bind λy3=>
 y3.elim (λy3a=>
  some (-1:Int)) (λy3a=>
  some y3a)
def iI (n:Nat) (a0:(List cJ)) (a1:cJ):Option Bool:=
 (jW n a0 a1).bind λx1=>
 some (decide (0<=x1))
def vQ (n:Nat) (a0:cJ):Option Bool:=
 (iI n cE a0).bind λx1=>
 some x1
def iT (n:Nat) (a0:aE) (a1:cJ):Option Bool:=
 (eB a0).bind λx1=>
 (if a0.e_ == 0 then
    if decide (x1.cW=a1) then
     if x1.bT == 3 then
      some true
     else
      if x1.bT == 1 then
       (vQ n a1).bind λx9=>
       some x9
      else
       some false
    else
     some false
   else
    some false).bind λy4=>
 some y4
def bU (n:Nat) (a0:aE) (a1:cJ):Option (Bool × aE):=
 (iT n a0 a1).bind λx1=>
 if !x1 then
  some (false,a0)
 else
  some (true,({ a0 with fL:=(i64.wrap (a0.fL+1)) }:aE))
def bQ (n:Nat) (a0:aE) (a1:cJ):Option aE:=
 (bU n a0 a1).bind λx1=>
 if !x1.1 then
  (gO x1.2 110).bind λx4=>
  some x4
 else
  some x1.2
def dY (n:Nat) (a0:aE):Option (cJ × aE):=
 (eB a0).bind λx1=>
 (if a0.e_ != 0 then
    some true
   else
    if x1.bT != 1 then
     some true
    else
     (vQ n x1.cW).bind λx7=>
     some x7).bind λy4=>
 if y4 then
  (gO a0 110).bind λx13=>
  some (([]:cJ),x13)
 else
  some (x1.cW,({ a0 with fL:=(i64.wrap (a0.fL+1)) }:aE))
def kG (a0:aE):Option (Int × aE):=
 (eB a0).bind λx1=>
 (if a0.e_ != 0 then
    some true
   else
    some (x1.bT != 2)).bind λy4=>
 if y4 then
  (gO a0 110).bind λx10=>
  some (0,x10)
 else
  some (x1.pO,({ a0 with fL:=(i64.wrap (a0.fL+1)) }:aE))
def lV (n:Nat) (a0:aE):Option (Int × aE):=
 (bQ n a0 ([91]:cJ)).bind λx1=>
 (kG x1).bind λx3=>
 (bQ n x3.2 ([93]:cJ)).bind λx5=>
 some (x3.1,x5)
def kN:List cJ:=[([112,117,98]:cJ),([117,51,50]:cJ),([117,54,52]:cJ)]
@[go_sem] def pQ (n:Nat):Nat->Int->aE->aD->aD->Option ((aE × aD × aD) ⊕ (aD × aE))
 | 0,_,_,_,_=>none
 | c15+1,v10,v11,v12,v13=>
   if decide (v10<3) then
    (bN kN v10).bind λx20=>
    (bU n v11 x20).bind λx29=>
    if x29.1=true then
     some (.inr (({ v13 with pO:=(u32.wrap (i64.wrap (1+v10))) }:aD),x29.2))
    else
     pQ n c15 (i64.wrap (v10+1)) x29.2 v12 v13
   else
    some (.inl (v11,v12,v13))
def mY (n:Nat) (a0:aE):Option (aD × aE):=
 (eL a0 3).bind λx2=>
 (dY n x2.2).bind λx5=>
 (bQ n x5.2 ([58]:cJ)).bind λx7=>
 (pQ n n 0 x7 (aD.mk 0 0 [] 0 []) ({ x2.1 with cW:=x5.1 }:aD)).bind λy14=>
 y14.elim (λy14a=>
  (eL y14a.1 14).bind λx37=>
  (lV n x37.2).bind λx40=>
  some (({ y14a.2.2 with pO:=4,aP:=[({ x37.1 with pO:=x40.1 }:aD)] }:aD),x40.2)) (λy14a=>
  some y14a)
@[go_sem] def lZ (n:Nat):Nat->(List aD)->aE->Option ((List aD) × aE)
 | 0,_,_=>none
 | c11+1,v8,v9=>
   if v9.e_ == 0 then
    (mY n v9).bind λx16=>
    hY (v8.length+[x16.1].length<=1073741824) <|
    (bU n x16.2 ([44]:cJ)).bind λx21=>
    if !x21.1 then
     some ((v8++[x16.1]),x21.2)
    else
     lZ n c11 (v8++[x16.1]) x21.2
   else
    some (v8,v9)
def fI (n:Nat) (a0:aE):Option ((List aD) × aE):=
 (bQ n a0 ([40]:cJ)).bind λx1=>
 (bU n x1 ([41]:cJ)).bind λx3=>
 if x3.1=true then
  some ([],x3.2)
 else
  ((lZ n n [] x3.2).bind λy10=>
    some (y10.1,y10.2)).bind λy6=>
  (bQ n y6.2 ([41]:cJ)).bind λx27=>
  some (y6.1,x27)
def lX (a0:aE) (a1:Int):Option aE:=
 if decide (64<a1) then
  (gO a0 111).bind λx2=>
  some x2
 else
  some a0
@[go_sem] def lJ (n:Nat) (x1:(List cJ)) (a0:aE):Nat->Int->Option (Unit ⊕ cJ)
 | 0,_=>none
 | c15+1,v13=>
   if decide (v13<3) then
    (bN x1 v13).bind λx20=>
    (if decide (x20 ≠ ([]:cJ)) then
       (iT n a0 x20).bind λx31=>
       some x31
      else
       some false).bind λy29=>
    if y29 then
     some (.inr x20)
    else
     lJ n x1 a0 c15 (i64.wrap (v13+1))
   else
    some (.inl ())
def lW (n:Nat) (a0:aE) (a1:Int):Option cJ:=
 (bN cT a1).bind λx1=>
 (lJ n x1 a0 n 0).bind λy14=>
 y14.elim (λy14a=>
  some ([]:cJ)) (λy14a=>
  some y14a)
@[go_sem] def fH (eS:aE->Int->Option (aD × aE)) (n:Nat) (a1:Int):Nat->(List aD)->aE->Option ((List aD) × aE)
 | 0,_,_=>none
 | c11+1,v8,v9=>
   if v9.e_ == 0 then
    (eS v9 a1).bind λx16=>
    hY (v8.length+[x16.1].length<=1073741824) <|
    (bU n x16.2 ([44]:cJ)).bind λx21=>
    if !x21.1 then
     some ((v8++[x16.1]),x21.2)
    else
     fH eS n a1 c11 (v8++[x16.1]) x21.2
   else
    some (v8,v9)
def gZ (eS:aE->Int->Option (aD × aE)) (n:Nat) (a0:aE) (a1:Int):Option ((List aD) × aE):=
 (bQ n a0 ([40]:cJ)).bind λx1=>
 (bU n x1 ([41]:cJ)).bind λx3=>
 if x3.1=true then
  some ([],x3.2)
 else
  ((fH eS n a1 n [] x3.2).bind λy10=>
    some (y10.1,y10.2)).bind λy6=>
  (bQ n y6.2 ([41]:cJ)).bind λx27=>
  some (y6.1,x27)
def oR (cP:aE->Int->Int->Option (aD × aE)) (n:Nat) (a0:aE) (a1:Int):Option (aD × aE):=
 (cP a0 0 a1).bind λx2=>
 some (x2.1,x2.2)
@[go_sem] def pS (cP:aE->Int->Int->Option (aD × aE)) (n:Nat) (a1:Int) (a2:Int):Nat->cJ->aE->aD->Option (aE × aD)
 | 0,_,_,_=>none
 | c15+1,v11,v12,v13=>
   if decide (v11 ≠ ([]:cJ)) then
    (eL v12 19).bind λx20=>
    (bQ n x20.2 v11).bind λx23=>
    (cP x23 (i64.wrap (a1+1)) a2).bind λx25=>
    if a1 == 3 then
     some (x25.2,({ x20.1 with cW:=v11,aP:=[v13,x25.1] }:aD))
    else
     (lW n x25.2 a1).bind λx28=>
     pS cP n a1 a2 c15 x28 x25.2 ({ x20.1 with cW:=v11,aP:=[v13,x25.1] }:aD)
   else
    some (v12,v13)
def nT (cO:aE->Int->Option (aD × aE)) (cP:aE->Int->Int->Option (aD × aE)) (n:Nat) (a0:aE) (a1:Int) (a2:Int):Option (aD × aE):=
 if a1 == 7 then
  (cO a0 a2).bind λx3=>
  some (x3.1,x3.2)
 else
  (cP a0 (i64.wrap (a1+1)) a2).bind λx5=>
  (lW n x5.2 a1).bind λx8=>
  (pS cP n a1 a2 n x8 x5.2 x5.1).bind λy14=>
  some (y14.2,y14.1)
def gU:List cJ:=[([126]:cJ),([45]:cJ)]
@[go_sem] def oK (cO:aE->Int->Option (aD × aE)) (n:Nat) (a1:Int):Nat->Int->aE->aD->aD->Option ((aE × aD × aD) ⊕ (aD × aE))
 | 0,_,_,_,_=>none
 | c23+1,v18,v19,v20,v21=>
   if decide (v18<2) then
    (bN gU v18).bind λx28=>
    (bU n v19 x28).bind λx37=>
    if x37.1=true then
     (cO x37.2 (i64.wrap (a1+1))).bind λx40=>
     some (.inr (({ v20 with bT:=18,cW:=x28,aP:=[x40.1] }:aD),x40.2))
    else
     oK cO n a1 c23 (i64.wrap (v18+1)) x37.2 v20 v21
   else
    some (.inl (v19,v20,v21))
def mG (dN:aE->Int->Option (aD × aE)) (cO:aE->Int->Option (aD × aE)) (gF:aE->Int->Option ((List aD) × aE)) (n:Nat) (a0:aE) (a1:Int):Option (aD × aE):=
 (lX a0 a1).bind λx4=>
 (bU n x4 ([40]:cJ)).bind λx6=>
 if x6.1=true then
  (dN x6.2 (i64.wrap (a1+1))).bind λx9=>
  (bQ n x9.2 ([41]:cJ)).bind λx12=>
  some (x9.1,x12)
 else
  (eL x6.2 15).bind λx14=>
  (oK cO n a1 n 0 x14.2 x14.1 (aD.mk 0 0 [] 0 [])).bind λy22=>
  y22.elim (λy22a=>
   (if y22a.1.e_ == 0 then
      (eB y22a.1).bind λx72=>
      some (x72.bT == 2)
     else
      some false).bind λy70=>
   if y70 then
    (kG y22a.1).bind λx78=>
    some (({ y22a.2.1 with bT:=14,pO:=x78.1 }:aD),x78.2)
   else
    (dY n y22a.1).bind λx80=>
    ((iT n x80.2 ([40]:cJ)).bind λx83=>
      if x83 then
       (gF x80.2 a1).bind λx86=>
       some (x86.2,({ y22a.2.1 with bT:=17,cW:=x80.1,aP:=x86.1 }:aD))
      else
       (bU n x80.2 ([91]:cJ)).bind λx88=>
       if x88.1=true then
        (dN x88.2 (i64.wrap (a1+1))).bind λx91=>
        (bQ n x91.2 ([93]:cJ)).bind λx93=>
        some (x93,({ y22a.2.1 with bT:=16,cW:=x80.1,aP:=[x91.1] }:aD))
       else
        some (x88.2,({ y22a.2.1 with cW:=x80.1 }:aD))).bind λy82=>
    some (y82.2,y82.1)) (λy22a=>
   some y22a)
def kY (dN:aE->Int->Option (aD × aE)) (n:Nat) (a0:aE) (a1:Int):Option (aD × aE):=
 (dN a0 (i64.wrap (a1+1))).bind λx2=>
 some (x2.1,x2.2)
def bG:Nat->(aE->Int->Option ((List aD) × aE)) × (aE->Int->Option (aD × aE)) × (aE->Int->Int->Option (aD × aE)) × (aE->Int->Option (aD × aE)) × (aE->Int->Option (aD × aE))
 | 0=>(λ_ _=>none,λ_ _=>none,λ_ _ _=>none,λ_ _=>none,λ_ _=>none)
 | n+1=>(gZ (bG n).2.2.2.2 n,oR (bG n).2.2.1 n,nT (bG n).2.2.2.1 (bG n).2.2.1 n,mG (bG n).2.1 (bG n).2.2.2.1 (bG n).1 n,kY (bG n).2.1 n)
def yU (n:Nat):aE->Int->Option ((List aD) × aE):=(bG n).1
def eM (n:Nat):aE->Int->Option (aD × aE):=(bG n).2.1
def Ff (n:Nat):aE->Int->Int->Option (aD × aE):=(bG n).2.2.1
def Ee (n:Nat):aE->Int->Option (aD × aE):=(bG n).2.2.2.1
def CF (n:Nat):aE->Int->Option (aD × aE):=(bG n).2.2.2.2
def kZ (n:Nat) (a0:aE) (a1:aD) (a2:Int):Option (aD × aE):=
 (dY n a0).bind λx3=>
 (bQ n x3.2 ([61]:cJ)).bind λx5=>
 (eM n x5 a2).bind λx7=>
 (bQ n x7.2 ([59]:cJ)).bind λx9=>
 some (({ a1 with cW:=x3.1,aP:=[x7.1] }:aD),x9)
def nR (n:Nat) (a0:aE) (a1:Int):Option (aD × aE):=
 (eM n a0 (i64.wrap (a1+2))).bind λx2=>
 some (x2.1,x2.2)
@[go_sem] def fT (n:Nat) (a1:Int):Nat->(List aD)->aE->Option ((List aD) × aE)
 | 0,_,_=>none
 | c11+1,v8,v9=>
   if v9.e_ == 0 then
    (nR n v9 a1).bind λx16=>
    hY (v8.length+[x16.1].length<=1073741824) <|
    (bU n x16.2 ([44]:cJ)).bind λx21=>
    if !x21.1 then
     some ((v8++[x16.1]),x21.2)
    else
     fT n a1 c11 (v8++[x16.1]) x21.2
   else
    some (v8,v9)
def gW (n:Nat) (a0:aE) (a1:Int):Option ((List aD) × aE):=
 (bQ n a0 ([40]:cJ)).bind λx1=>
 (bU n x1 ([41]:cJ)).bind λx3=>
 if x3.1=true then
  some ([],x3.2)
 else
  ((fT n a1 n [] x3.2).bind λy10=>
    some (y10.1,y10.2)).bind λy6=>
  (bQ n y6.2 ([41]:cJ)).bind λx27=>
  some (y6.1,x27)
def mX (n:Nat) (a0:aE) (a1:aD) (a2:Int):Option (aD × aE):=
 (dY n a0).bind λx5=>
 ((iT n x5.2 ([40]:cJ)).bind λx8=>
   if x8 then
    (gW n x5.2 a2).bind λx11=>
    some (x11.2,({ a1 with bT:=10,cW:=x5.1,aP:=x11.1 }:aD))
   else
    (bU n x5.2 ([91]:cJ)).bind λx13=>
    if x13.1=true then
     (eM n x13.2 (i64.wrap (a2+2))).bind λx16=>
     (bQ n x16.2 ([93]:cJ)).bind λx18=>
     (bQ n x18 ([61]:cJ)).bind λx20=>
     (eM n x20 (i64.wrap (a2+1))).bind λx22=>
     hY ([x16.1].length+[x22.1].length<=1073741824) <|
     some (x22.2,({ a1 with bT:=9,cW:=x5.1,aP:=([x16.1]++[x22.1]) }:aD))
    else
     (bQ n x13.2 ([61]:cJ)).bind λx25=>
     (eM n x25 (i64.wrap (a2+1))).bind λx27=>
     some (x27.2,({ a1 with cW:=x5.1,aP:=[x27.1] }:aD))).bind λy7=>
 (bQ n y7.1 ([59]:cJ)).bind λx32=>
 some (y7.2,x32)
@[go_sem] def nA (eR:aE->Int->Option (aD × aE)) (n:Nat) (a1:Int):Nat->aE->aD->Option (aE × aD)
 | 0,_,_=>none
 | c13+1,v10,v11=>
   (if v10.e_ == 0 then
      (iT n v10 ([125]:cJ)).bind λx19=>
      some (!x19)
     else
      some false).bind λy17=>
   if y17 then
    (eR v10 a1).bind λx25=>
    hY (v11.aP.length+[x25.1].length<=1073741824) <|
    nA eR n a1 c13 x25.2 ({ v11 with aP:=(v11.aP++[x25.1]) }:aD)
   else
    some (v10,v11)
def nU (eR:aE->Int->Option (aD × aE)) (n:Nat) (a0:aE) (a1:Int):Option (aD × aE):=
 (lX a0 a1).bind λx2=>
 (eL x2 4).bind λx4=>
 (bQ n x4.2 ([123]:cJ)).bind λx7=>
 (nA eR n a1 n x7 x4.1).bind λy12=>
 (bQ n y12.1 ([125]:cJ)).bind λx32=>
 some (y12.2,x32)
def kX (lR:aE->aD->Int->Option (aD × aE)) (mW:aE->aD->Int->Option (aD × aE)) (n:Nat) (a0:aE) (a1:Int):Option (aD × aE):=
 (eL a0 8).bind λx2=>
 ((bU n x2.2 ([108,101,116]:cJ)).bind λx6=>
   if x6.1=true then
    (kZ n x6.2 ({ x2.1 with bT:=5 }:aD) (i64.wrap (a1+1))).bind λx9=>
    some (.inr (x9.1,x9.2))
   else
    (bU n x6.2 ([118,97,114]:cJ)).bind λx11=>
    if x11.1=true then
     (kZ n x11.2 ({ x2.1 with bT:=6 }:aD) (i64.wrap (a1+1))).bind λx14=>
     some (.inr (x14.1,x14.2))
    else
     (bU n x11.2 ([97,114,114]:cJ)).bind λx16=>
     if x16.1=true then
      (dY n x16.2).bind λx19=>
      (lV n x19.2).bind λx21=>
      some (.inl (x21.2,({ x2.1 with bT:=7,cW:=x19.1,pO:=x21.1 }:aD)))
     else
      (bU n x16.2 ([114,101,116,117,114,110]:cJ)).bind λx23=>
      if x23.1=true then
       (eM n x23.2 (i64.wrap (a1+1))).bind λx26=>
       some (.inl (x26.2,({ x2.1 with bT:=13,aP:=[x26.1] }:aD)))
      else
       (bU n x23.2 ([105,102]:cJ)).bind λx28=>
       if x28.1=true then
        (lR x28.2 x2.1 a1).bind λx31=>
        some (.inr (x31.1,x31.2))
       else
        (bU n x28.2 ([102,111,114]:cJ)).bind λx33=>
        if x33.1=true then
         (mW x33.2 x2.1 a1).bind λx36=>
         some (.inr (x36.1,x36.2))
        else
         (mX n x33.2 x2.1 a1).bind λx38=>
         some (.inr (x38.1,x38.2)):Option ((aE × aD) ⊕ (aD × aE))).bind λy5=>
 y5.elim (λy5a=>
  (bQ n y5a.1 ([59]:cJ)).bind λx43=>
  some (y5a.2,x43)) (λy5a=>
  some y5a)
def mZ (dI:aE->Int->Option (aD × aE)) (n:Nat) (a0:aE) (a1:aD) (a2:Int):Option (aD × aE):=
 (eM n a0 (i64.wrap (a2+1))).bind λx3=>
 (dI x3.2 (i64.wrap (a2+1))).bind λx5=>
 hY ([x3.1].length+[x5.1].length<=1073741824) <|
 (bU n x5.2 ([101,108,115,101]:cJ)).bind λx8=>
 if x8.1=true then
  (dI x8.2 (i64.wrap (a2+1))).bind λx11=>
  hY (([x3.1]++[x5.1]).length+[x11.1].length<=1073741824) <|
  some (({ a1 with bT:=11,aP:=(([x3.1]++[x5.1])++[x11.1]) }:aD),x11.2)
 else
  some (({ a1 with bT:=11,aP:=([x3.1]++[x5.1]) }:aD),x8.2)
def oQ (dI:aE->Int->Option (aD × aE)) (n:Nat) (a0:aE) (a1:aD) (a2:Int):Option (aD × aE):=
 (dY n a0).bind λx3=>
 (bQ n x3.2 ([105,110]:cJ)).bind λx5=>
 (eM n x5 (i64.wrap (a2+1))).bind λx7=>
 (bQ n x7.2 ([46,46]:cJ)).bind λx9=>
 (eM n x9 (i64.wrap (a2+1))).bind λx11=>
 hY ([x7.1].length+[x11.1].length<=1073741824) <|
 (dI x11.2 (i64.wrap (a2+1))).bind λx14=>
 hY (([x7.1]++[x11.1]).length+[x14.1].length<=1073741824) <|
 some (({ a1 with bT:=12,cW:=x3.1,aP:=(([x7.1]++[x11.1])++[x14.1]) }:aD),x14.2)
def dB:Nat->(aE->Int->Option (aD × aE)) × (aE->Int->Option (aD × aE)) × (aE->aD->Int->Option (aD × aE)) × (aE->aD->Int->Option (aD × aE))
 | 0=>(λ_ _=>none,λ_ _=>none,λ_ _ _=>none,λ_ _ _=>none)
 | n+1=>(nU (dB n).2.1 n,kX (dB n).2.2.1 (dB n).2.2.2 n,mZ (dB n).1 n,oQ (dB n).1 n)
def eC (n:Nat):aE->Int->Option (aD × aE):=(dB n).1
def CD (n:Nat):aE->Int->Option (aD × aE):=(dB n).2.1
def EK (n:Nat):aE->aD->Int->Option (aD × aE):=(dB n).2.2.1
def FU (n:Nat):aE->aD->Int->Option (aD × aE):=(dB n).2.2.2
def kO (n:Nat) (a0:aE):Option (aD × aE):=
 (eL a0 2).bind λx2=>
 (bU n x2.2 ([101,120,112,111,114,116]:cJ)).bind λx5=>
 if x5.1=true then
  (bQ n x5.2 ([102,110]:cJ)).bind λx8=>
  (dY n x8).bind λx10=>
  (fI n x10.2).bind λx12=>
  (bU n x12.2 ([45,62]:cJ)).bind λx14=>
  if x14.1=true then
   (bU n x14.2 ([117,51,50]:cJ)).bind λx17=>
   if x17.1=true then
    (eC n x17.2 1).bind λx20=>
    hY (x12.1.length+[x20.1].length<=1073741824) <|
    some (({ x2.1 with cW:=x10.1,pO:=(orK .u32 1 2),aP:=(x12.1++[x20.1]) }:aD),x20.2)
   else
    (bQ n x17.2 ([117,54,52]:cJ)).bind λx25=>
    (eC n x25 1).bind λx27=>
    hY (x12.1.length+[x27.1].length<=1073741824) <|
    some (({ x2.1 with cW:=x10.1,pO:=(orK .u32 1 4),aP:=(x12.1++[x27.1]) }:aD),x27.2)
  else
   (eC n x14.2 1).bind λx32=>
   hY (x12.1.length+[x32.1].length<=1073741824) <|
   some (({ x2.1 with cW:=x10.1,pO:=1,aP:=(x12.1++[x32.1]) }:aD),x32.2)
 else
  (bQ n x5.2 ([102,110]:cJ)).bind λx37=>
  (dY n x37).bind λx39=>
  (fI n x39.2).bind λx41=>
  (bU n x41.2 ([45,62]:cJ)).bind λx43=>
  if x43.1=true then
   (bU n x43.2 ([117,51,50]:cJ)).bind λx46=>
   if x46.1=true then
    (eC n x46.2 1).bind λx49=>
    hY (x41.1.length+[x49.1].length<=1073741824) <|
    some (({ x2.1 with cW:=x39.1,pO:=(orK .u32 x2.1.pO 2),aP:=(x41.1++[x49.1]) }:aD),x49.2)
   else
    (bQ n x46.2 ([117,54,52]:cJ)).bind λx54=>
    (eC n x54 1).bind λx56=>
    hY (x41.1.length+[x56.1].length<=1073741824) <|
    some (({ x2.1 with cW:=x39.1,pO:=(orK .u32 x2.1.pO 4),aP:=(x41.1++[x56.1]) }:aD),x56.2)
  else
   (eC n x43.2 1).bind λx61=>
   hY (x41.1.length+[x61.1].length<=1073741824) <|
   some (({ x2.1 with cW:=x39.1,aP:=(x41.1++[x61.1]) }:aD),x61.2)
@[go_sem] def tY (n:Nat):Nat->aE->aD->Option (aE × aD)
 | 0,_,_=>none
 | c13+1,v10,v11=>
   (if v10.e_ == 0 then
      (eB v10).bind λx19=>
      some (x19.bT != 4)
     else
      some false).bind λy17=>
   if y17 then
    (kO n v10).bind λx25=>
    hY (v11.aP.length+[x25.1].length<=1073741824) <|
    tY n c13 x25.2 ({ v11 with aP:=(v11.aP++[x25.1]) }:aD)
   else
    some (v10,v11)
def zQ (n:Nat) (a0:cJ):Option (aD × Int × Int):=
 (yX n a0).bind λx2=>
 if x2.2.1 != 0 then
  some ((aD.mk 0 0 [] 0 []),x2.2.1,x2.2.2)
 else
  (eL (aE.mk x2.1 0 0 0 0) 1).bind λx6=>
  (tY n n x6.2 x6.1).bind λy12=>
  if y12.1.e_ != 0 then
   some ((aD.mk 0 0 [] 0 []),y12.1.e_,y12.1.Cw)
  else
   some (y12.2,0,0)
def pK (a0:aG) (a1:aH) (a2:Int) (a3:Int):Option aH:=
 if a1.e_ == 0 then
  some (aH.mk a2 a3)
 else
  some a1
def bB (a0:aG) (a1:aH) (a2:Bool) (a3:Int) (a4:Int):Option aH:=
 if !a2 then
  (pK a0 a1 a3 a4).bind λx2=>
  some x2
 else
  some a1
def Af (a0:aS) (a1:cJ):Option Bool:=
 some (decide (a0.fO=a1))
@[go_sem] def cH (a0:(List aS)) (a1:cJ):Nat->Int->Option (Unit ⊕ Int)
 | 0,_=>none
 | c4+1,v2=>
   if decide (v2<(a0.length:Int)) then
    (bN a0 v2).bind λx9=>
    (Af x9 a1).bind λx10=>
    if x10 then
     some (.inr v2)
    else
     cH a0 a1 c4 (i64.wrap (v2+1))
   else
    some (.inl ())
def eW (n:Nat) (a0:(List aS)) (a1:cJ):Option Int:=
 (cH a0 a1 n 0).bind λy3=>
 y3.elim (λy3a=>
  some (-1:Int)) (λy3a=>
  some y3a)
def oZ (n:Nat) (a0:bL) (a1:cJ):Option (Int × Bool):=
 (eW n a0.bF a1).bind λx3=>
 some ((max x3 0),(decide (0<=x3)))
@[go_sem] def vC (a0:cJ):Nat->Int->Option (Unit ⊕ Int)
 | 0,_=>none
 | c4+1,v2=>
   if decide (v2<5) then
    (bN cL v2).bind λx9=>
    if decide (x9.Pv=a0) then
     some (.inr x9.PQ)
    else
     vC a0 c4 (i64.wrap (v2+1))
   else
    some (.inl ())
def uC (n:Nat) (a0:cJ):Option Int:=
 (vC a0 n 0).bind λy3=>
 y3.elim (λy3a=>
  some 0) (λy3a=>
  some y3a)
def xS (a0:Int):Option Int:=
 if (AO .u32 a0 2) != 0 then
  some 2
 else
  if (AO .u32 a0 4) != 0 then
   some 3
  else
   some 0
@[go_sem] def kD (n:Nat) (a2:aD):Nat->Int->aG->aH->Option (aG × aH)
 | 0,_,_,_=>none
 | c9+1,v5,v6,v7=>
   if decide (v5<(a2.aP.length:Int)) then
    (bN a2.aP v5).bind λx14=>
    (oZ n v6.p_ x14.cW).bind λx20=>
    (if !x20.2 then
       (uC n x14.cW).bind λx25=>
       (bB v6 v7 (x25 == 0) 131 x14.fC).bind λx26=>
       some x26
      else
       (bB v6 v7 false 131 x14.fC).bind λx29=>
       some x29).bind λy23=>
    (xS x14.pO).bind λx34=>
    hY (v6.f_<0) <|
    hY (v6.p_.bF.length+1<=1073741824) <|
    kD n a2 c9 (i64.wrap (v5+1)) ({ v6 with p_:=⟨(v6.p_.bF++[(aS.mk x14.cW ((AO .u32 x14.pO 1) != 0) x34 0 [] [])])⟩ }:aG) y23
   else
    some (v6,v7)
def oS (n:Nat) (a0:aG) (a1:aH) (a2:aD):Option (aG × aH):=
 (bB a0 a1 (decide ((a2.aP.length:Int)<=64)) 136 a2.fC).bind λx2=>
 (kD n a2 n 0 a0 x2).bind λy8=>
 hY (0<=(a2.aP.length:Int)/\(a2.aP.length:Int)<=1073741824) <|
 some (({ y8.1 with cB:=(List.replicate a2.aP.length []) }:aG),y8.2)
@[go_sem] def oE (a0:aS):Nat->Int->Int->Option Int
 | 0,_,_=>none
 | c8+1,v5,v6=>
   if decide (v6<((a0.aX.take a0.bC.toNat).length:Int)) then
    ((bN (a0.aX.take a0.bC.toNat) v6).bind λx14=>
      if x14.bT == 3 then
       some (i64.wrap ((i64.wrap (v5+(i64.wrap ((v5.tmod 2)+1))))+1))
      else
       some (i64.wrap (v5+1))).bind λy13=>
    oE a0 c8 y13 (i64.wrap (v6+1))
   else
    some v5
def sJ (n:Nat) (a0:aS):Option Int:=
 hY (0<=a0.bC/\a0.bC<=(a0.aX.length:Int)) <|
 (oE a0 n 0 0).bind λy7=>
 some y7
@[go_sem] def iD (x1:aS):Nat->Int->aG->Option aG
 | 0,_,_=>none
 | c31+1,v28,v29=>
   if decide (v28<x1.bC) then
    hY (v29.bI.length+1<=1073741824) <|
    iD x1 c31 (i64.wrap (v28+1)) ({ v29 with bI:=(v29.bI++[v28]) }:aG)
   else
    some v29
def mD (n:Nat) (a0:aG) (a1:aH) (a2:Int):Option (aG × aH):=
 (bN a0.p_.bF a2).bind λx1=>
 (iD x1 n 0 ({ a0 with f_:=a2,bI:=[],fL:=a2 }:aG)).bind λy30=>
 some (y30,a1)
def wJ (a0:Int):Option Bool:=
 (if decide (1<=a0) then
    if decide (a0<=255) then
     some true
    else
     if decide (255<a0) then
      if decide (a0<=1024) then
       some ((a0.tmod 4) == 0)
      else
       some false
     else
      some false
   else
    if decide (255<a0) then
     if decide (a0<=1024) then
      some ((a0.tmod 4) == 0)
     else
      some false
    else
     some false).bind λy1=>
 some y1
@[go_sem] def kQ (a0:aG) (a2:cJ):Nat->Int->Option (Unit ⊕ Int)
 | 0,_=>none
 | c5+1,v3=>
   if decide (0<=v3) then
    (bN a0.p_.bF a0.f_).bind λx10=>
    (bN a0.bI v3).bind λx13=>
    (bN x10.aX x13).bind λx14=>
    if decide (x14.fO=a2) then
     some (.inr x13)
    else
     kQ a0 a2 c5 (i64.wrap (v3 - 1))
   else
    some (.inl ())
def lE (n:Nat) (a0:aG) (a1:aH) (a2:cJ):Option Int:=
 (kQ a0 a2 n (i64.wrap ((a0.bI.length:Int) - 1))).bind λy4=>
 y4.elim (λy4a=>
  some (-1:Int)) (λy4a=>
  some y4a)
def eD (n:Nat) (a0:aG) (a1:aH) (a2:aL) (a3:Int):Option (Int × aG × aH):=
 (lE n a0 a1 a2.fO).bind λx2=>
 (bB a0 a1 (decide (x2<0)) 131 a3).bind λx3=>
 (bN a0.p_.bF a0.f_).bind λx6=>
 (bB a0 x3 (decide ((x6.aX.length:Int)<250)) 136 a3).bind λx9=>
 if x9.e_ != 0 then
  some ((-1:Int),a0,x9)
 else
  hY (x6.aX.length+1<=1073741824) <|
  hY (a0.bI.length+1<=1073741824) <|
  some ((x6.aX.length:Int),({ a0 with p_:=⟨(a0.p_.bF.set a0.f_.toNat { x6 with aX:=(x6.aX++[a2]) })⟩,bI:=(a0.bI++[(x6.aX.length:Int)]) }:aG),x9)
@[go_sem] def jE (n:Nat) (a2:(List aD)):Nat->Int->aG->aH->Option (aG × aH)
 | 0,_,_,_=>none
 | c6+1,v2,v3,v4=>
   if decide (v2<(a2.length:Int)) then
    ((bN a2 v2).bind λx12=>
      (if (i64.wrap x12.pO) == 4 then
         some (decide (0<(x12.aP.length:Int)))
        else
         some false).bind λy19=>
      if y19 then
       (bN x12.aP 0).bind λx25=>
       (wJ (i64.wrap x25.pO)).bind λx31=>
       (bB v3 v4 x31 136 x12.fC).bind λx32=>
       (eD n v3 x32 (aL.mk x12.cW (i64.wrap x12.pO) (i64.wrap x25.pO)) x12.fC).bind λx35=>
       some (x35.2.1,x35.2.2)
      else
       (eD n v3 v4 (aL.mk x12.cW (i64.wrap x12.pO) 0) x12.fC).bind λx37=>
       some (x37.2.1,x37.2.2)).bind λy11=>
    jE n a2 c6 (i64.wrap (v2+1)) y11.1 y11.2
   else
    some (v3,v4)
def qH (n:Nat) (a0:aG) (a1:aH) (a2:(List aD)):Option (aG × aH):=
 (jE n a2 n 0 a0 a1).bind λy5=>
 (bN y5.1.p_.bF y5.1.f_).bind λx61=>
 some (({ y5.1 with p_:=⟨(y5.1.p_.bF.set y5.1.f_.toNat { x61 with bC:=(x61.aX.length:Int) })⟩ }:aG),y5.2)
def lD (n:Nat) (a0:aG) (a1:aH) (a2:Int) (a3:aD):Option (aG × aH):=
 (mD n a0 a1 a2).bind λx2=>
 hY (0<=(max (i64.wrap ((a3.aP.length:Int) - 1)) 0)/\(max (i64.wrap ((a3.aP.length:Int) - 1)) 0)<=(a3.aP.length:Int)) <|
 (qH n x2.1 x2.2 (a3.aP.take (max (i64.wrap ((a3.aP.length:Int) - 1)) 0).toNat)).bind λx4=>
 if x4.2.e_ == 0 then
  ((bN x4.1.p_.bF x4.1.f_).bind λx10=>
    if !x10.dG then
     (bB x4.1 x4.2 true 136 a3.fC).bind λx27=>
     some x27
    else
     (sJ n x10).bind λx29=>
     (bB x4.1 x4.2 (decide (x29<=4)) 136 a3.fC).bind λx30=>
     some x30).bind λy9=>
  some (x4.1,y9)
 else
  some (x4.1,x4.2)
def eT (a0:aG) (a1:aH) (a2:Int):Option Int:=
 if decide (a2<0) then
  some 0
 else
  (bN a0.p_.bF a0.f_).bind λx2=>
  (bN x2.aX a2).bind λx5=>
  some x5.bT
def gA (n:Nat) (a0:aG) (a1:aH) (a2:aD):Option (Int × aH):=
 (lE n a0 a1 a2.cW).bind λx2=>
 (bB a0 a1 (decide (0<=x2)) 130 a2.fC).bind λx4=>
 some (x2,x4)
def sX (a0:Int) (a1:Int):Option Int:=
 (if a0 == a1 then
    if decide (1<=a0) then
     some (decide (a0<=3))
    else
     some false
   else
    some false).bind λy1=>
 if y1 then
  some a0
 else
  (if a0 == 1 then
     if a1 == 2 then
      some true
     else
      if a0 == 2 then
       some (a1 == 1)
      else
       some false
    else
     if a0 == 2 then
      some (a1 == 1)
     else
      some false).bind λy8=>
  if y8 then
   some 2
  else
   some 0
def cF (a0:aG) (a1:aH) (a2:aF) (a3:Int):Option (aF × aH):=
 (bB a0 a1 (a3 != 0) 132 a2.fC).bind λx3=>
 some (({ a2 with cK:=a3 }:aF),x3)
def gL (a0:aG) (a1:aH) (a2:aF) (a3:aF) (a4:aF):Option (aF × aH):=
 (bB a0 a1 (a4.cK == 1) 133 a4.fC).bind λx5=>
 if a3.cK == 3 then
  (if decide (a4.iB=([110,117,109]:cJ)) then
     (bB a0 x5 (decide (a4.N_<=63)) 132 a2.fC).bind λx10=>
     some x10
    else
     (bB a0 x5 false 132 a2.fC).bind λx12=>
     some x12).bind λy8=>
  (cF a0 y8 a2 a3.cK).bind λx17=>
  some (x17.1,x17.2)
 else
  (cF a0 x5 a2 a3.cK).bind λx19=>
  some (x19.1,x19.2)
def sV (a0:Int):Option Int:=
 if a0 == 1 then
  some 2
 else
  some a0
def qL (a0:Int):Option Bool:=
 (if a0 == 1 then
    some true
   else
    some (a0 == 2)).bind λy1=>
 some y1
def lL (a0:aG) (a1:aH) (a2:aF):Option Int:=
 (bN a2.aP 1).bind λx2=>
 (bN a2.aP 2).bind λx3=>
 (sX x2.cK x3.cK).bind λx4=>
 ((bN a2.aP 0).bind λx17=>
   (qL x17.cK).bind λx18=>
   if !x18 then
    some true
   else
    some (x4 == 0)).bind λy16=>
 if y16 then
  some 0
 else
  (sV x4).bind λx30=>
  some x30
def oA (mF:aG->aH->aD->aF->Option (aF × aH)) (lS:aG->aH->aD->aF->Option (aF × aH)) (kW:aG->aH->aD->aF->Option (aF × aH)) (kJ:aG->aH->aD->aF->Option (aF × aH)) (n:Nat) (a0:aG) (a1:aH) (a2:aD):Option (aF × aH):=
 if a2.bT == 14 then
  some ((aF.mk ([110,117,109]:cJ) 1 a2.pO (-1:Int) [] a2.fC),a1)
 else
  if a2.bT == 15 then
   (gA n a0 a1 a2).bind λx6=>
   (eT a0 x6.2 x6.1).bind λx8=>
   (bB a0 x6.2 (x8 != 4) 132 a2.fC).bind λx10=>
   some ((aF.mk ([118,97,114]:cJ) x8 0 x6.1 [] a2.fC),x10)
  else
   if a2.bT == 16 then
    (mF a0 a1 a2 (aF.mk [] 0 0 (-1:Int) [] a2.fC)).bind λx13=>
    some (x13.1,x13.2)
   else
    if a2.bT == 18 then
     (lS a0 a1 a2 (aF.mk [] 0 0 (-1:Int) [] a2.fC)).bind λx16=>
     some (x16.1,x16.2)
    else
     if a2.bT == 19 then
      (kW a0 a1 a2 (aF.mk [] 0 0 (-1:Int) [] a2.fC)).bind λx19=>
      some (x19.1,x19.2)
     else
      (kJ a0 a1 a2 (aF.mk [] 0 0 (-1:Int) [] a2.fC)).bind λx21=>
      some (x21.1,x21.2)
def nZ (dA:aG->aH->aD->Option (aF × aH)) (n:Nat) (a0:aG) (a1:aH) (a2:aD) (a3:aF):Option (aF × aH):=
 (bN a2.aP 0).bind λx4=>
 (dA a0 a1 x4).bind λx5=>
 (gA n a0 x5.2 a2).bind λx13=>
 (eT a0 x13.2 x13.1).bind λx15=>
 (bB a0 x13.2 (x15 == 4) 132 a2.fC).bind λx16=>
 (bB a0 x16 (x5.1.cK == 1) 133 x5.1.fC).bind λx19=>
 (if x19.e_ == 0 then
    some (decide (x5.1.iB=([110,117,109]:cJ)))
   else
    some false).bind λy21=>
 if y21 then
  (bN a0.p_.bF a0.f_).bind λx27=>
  (bN x27.aX x13.1).bind λx30=>
  (bB a0 x19 (decide ((i64.wrap x5.1.N_)<x30.pB)) 137 x5.1.fC).bind λx31=>
  some (({ a3 with iB:=([105,110,100,101,120]:cJ),cK:=2,gC:=x13.1,aP:=[x5.1] }:aF),x31)
 else
  some (({ a3 with iB:=([105,110,100,101,120]:cJ),cK:=2,gC:=x13.1,aP:=[x5.1] }:aF),x19)
def nC (cM:aG->aH->(List aD)->Option ((List aF) × aH)) (n:Nat) (a0:aG) (a1:aH) (a2:aD) (a3:aF):Option (aF × aH):=
 (cM a0 a1 a2.aP).bind λx4=>
 if decide (a2.cW=([45]:cJ)) then
  (bN x4.1 0).bind λx7=>
  some (({ a3 with iB:=([110,101,103]:cJ),cK:=x7.cK,aP:=x4.1 }:aF),x4.2)
 else
  (bN x4.1 0).bind λx13=>
  some (({ a3 with iB:=([110,111,116]:cJ),cK:=x13.cK,aP:=x4.1 }:aF),x4.2)
def mK (cM:aG->aH->(List aD)->Option ((List aF) × aH)) (n:Nat) (a0:aG) (a1:aH) (a2:aD) (a3:aF):Option (aF × aH):=
 (cM a0 a1 a2.aP).bind λx4=>
 (bN x4.1 0).bind λx6=>
 (bN x4.1 1).bind λx9=>
 (sX x6.cK x9.cK).bind λx20=>
 if decide (a2.cW=([47]:cJ)) then
  (bB a0 x4.2 (x6.cK == 1) 133 x6.fC).bind λx23=>
  (bB a0 x23 (x9.cK == 1) 133 x9.fC).bind λx25=>
  (cF a0 x25 ({ a3 with iB:=a2.cW,aP:=x4.1 }:aF) 1).bind λx27=>
  some (x27.1,x27.2)
 else
  if decide (a2.cW=([37]:cJ)) then
   (bB a0 x4.2 (x6.cK == 1) 133 x6.fC).bind λx30=>
   (bB a0 x30 (x9.cK == 1) 133 x9.fC).bind λx32=>
   (cF a0 x32 ({ a3 with iB:=a2.cW,aP:=x4.1 }:aF) 1).bind λx34=>
   some (x34.1,x34.2)
  else
   if decide (a2.cW=([60,60]:cJ)) then
    (gL a0 x4.2 ({ a3 with iB:=a2.cW,aP:=x4.1 }:aF) x6 x9).bind λx37=>
    some (x37.1,x37.2)
   else
    if decide (a2.cW=([62,62]:cJ)) then
     (gL a0 x4.2 ({ a3 with iB:=a2.cW,aP:=x4.1 }:aF) x6 x9).bind λx40=>
     some (x40.1,x40.2)
    else
     if decide (a2.cW=([60,60,60]:cJ)) then
      (gL a0 x4.2 ({ a3 with iB:=a2.cW,aP:=x4.1 }:aF) x6 x9).bind λx43=>
      some (x43.1,x43.2)
     else
      if decide (a2.cW=([42]:cJ)) then
       (bB a0 x4.2 (x20 != 3) 132 a2.fC).bind λx46=>
       (cF a0 x46 ({ a3 with iB:=a2.cW,aP:=x4.1 }:aF) x20).bind λx48=>
       some (x48.1,x48.2)
      else
       if decide (a2.cW=([61,61]:cJ)) then
        if x20 == 3 then
         (cF a0 x4.2 ({ a3 with iB:=a2.cW,aP:=x4.1 }:aF) 2).bind λx52=>
         some (x52.1,x52.2)
        else
         (cF a0 x4.2 ({ a3 with iB:=a2.cW,aP:=x4.1 }:aF) x20).bind λx54=>
         some (x54.1,x54.2)
       else
        if decide (a2.cW=([60]:cJ)) then
         if x20 == 3 then
          (cF a0 x4.2 ({ a3 with iB:=a2.cW,aP:=x4.1 }:aF) 2).bind λx58=>
          some (x58.1,x58.2)
         else
          (cF a0 x4.2 ({ a3 with iB:=a2.cW,aP:=x4.1 }:aF) x20).bind λx60=>
          some (x60.1,x60.2)
        else
         (cF a0 x4.2 ({ a3 with iB:=a2.cW,aP:=x4.1 }:aF) x20).bind λx62=>
         some (x62.1,x62.2)
def lT (cM:aG->aH->(List aD)->Option ((List aF) × aH)) (n:Nat) (a0:aG) (a1:aH) (a2:aD) (a3:aF):Option (aF × aH):=
 (uC n a2.cW).bind λx4=>
 (bB a0 a1 (decide (0<x4)) 130 a2.fC).bind λx6=>
 (bB a0 x6 ((a2.aP.length:Int) == x4) 136 a2.fC).bind λx8=>
 (cM a0 x8 a2.aP).bind λx10=>
 if x10.2.e_ != 0 then
  some (({ a3 with iB:=a2.cW,aP:=x10.1 }:aF),x10.2)
 else
  (bN x10.1 0).bind λx13=>
  if decide (a2.cW=([115,101,108,101,99,116]:cJ)) then
   (lL a0 x10.2 ({ a3 with iB:=a2.cW,aP:=x10.1 }:aF)).bind λx20=>
   (cF a0 x10.2 ({ a3 with iB:=a2.cW,aP:=x10.1 }:aF) x20).bind λx21=>
   some (x21.1,x21.2)
  else
   if decide (a2.cW=([108,111,110,103]:cJ)) then
    (qL x13.cK).bind λx25=>
    (bB a0 x10.2 x25 132 a2.fC).bind λx26=>
    (cF a0 x26 ({ a3 with iB:=a2.cW,aP:=x10.1 }:aF) 3).bind λx29=>
    some (x29.1,x29.2)
   else
    if decide (a2.cW=([119,105,100,101]:cJ)) then
     ((qL x13.cK).bind λx33=>
       if x33 then
        (bN x10.1 1).bind λx36=>
        (qL x36.cK).bind λx37=>
        (bB a0 x10.2 x37 132 a2.fC).bind λx38=>
        some x38
       else
        (bB a0 x10.2 false 132 a2.fC).bind λx46=>
        some x46).bind λy32=>
     (cF a0 y32 ({ a3 with iB:=a2.cW,aP:=x10.1 }:aF) 3).bind λx51=>
     some (x51.1,x51.2)
    else
     (bB a0 x10.2 (x13.cK == 3) 132 a2.fC).bind λx53=>
     (cF a0 x53 ({ a3 with iB:=a2.cW,aP:=x10.1 }:aF) 2).bind λx55=>
     some (x55.1,x55.2)
@[go_sem] def qJ (dA:aG->aH->aD->Option (aF × aH)) (a2:(List aD)) (a0:aG):Nat->(List aF)->Int->aH->Option ((List aF) × aH)
 | 0,_,_,_=>none
 | c6+1,v2,v3,v4=>
   if decide (v3<(a2.length:Int)) then
    (bN a2 v3).bind λx11=>
    (dA a0 v4 x11).bind λx17=>
    hY (v2.length+[x17.1].length<=1073741824) <|
    qJ dA a2 a0 c6 (v2++[x17.1]) (i64.wrap (v3+1)) x17.2
   else
    some (v2,v4)
def oV (dA:aG->aH->aD->Option (aF × aH)) (n:Nat) (a0:aG) (a1:aH) (a2:(List aD)):Option ((List aF) × aH):=
 (qJ dA a2 a0 n [] 0 a1).bind λy5=>
 some (y5.1,y5.2)
def bY:Nat->(aG->aH->aD->Option (aF × aH)) × (aG->aH->aD->aF->Option (aF × aH)) × (aG->aH->aD->aF->Option (aF × aH)) × (aG->aH->aD->aF->Option (aF × aH)) × (aG->aH->aD->aF->Option (aF × aH)) × (aG->aH->(List aD)->Option ((List aF) × aH))
 | 0=>(λ_ _ _=>none,λ_ _ _ _=>none,λ_ _ _ _=>none,λ_ _ _ _=>none,λ_ _ _ _=>none,λ_ _ _=>none)
 | n+1=>(oA (bY n).2.1 (bY n).2.2.1 (bY n).2.2.2.1 (bY n).2.2.2.2.1 n,nZ (bY n).1 n,nC (bY n).2.2.2.2.2 n,mK (bY n).2.2.2.2.2 n,lT (bY n).2.2.2.2.2 n,oV (bY n).1 n)
def gB (n:Nat):aG->aH->aD->Option (aF × aH):=(bY n).1
def Fh (n:Nat):aG->aH->aD->aF->Option (aF × aH):=(bY n).2.1
def EM (n:Nat):aG->aH->aD->aF->Option (aF × aH):=(bY n).2.2.1
def Ep (n:Nat):aG->aH->aD->aF->Option (aF × aH):=(bY n).2.2.2.1
def DC (n:Nat):aG->aH->aD->aF->Option (aF × aH):=(bY n).2.2.2.2.1
def FV (n:Nat):aG->aH->(List aD)->Option ((List aF) × aH):=(bY n).2.2.2.2.2
def eJ (n:Nat) (a0:aG) (a1:aH) (a2:aD):Option (aF × aH):=
 (gB n a0 a1 a2).bind λx3=>
 (bB a0 x3.2 (x3.1.cK == 1) 133 a2.fC).bind λx6=>
 some (x3.1,x6)
def mJ (n:Nat) (a0:aG) (a1:aH) (a2:aD):Option (Int × aH):=
 (oZ n a0.p_ a2.cW).bind λx2=>
 (bB a0 a1 x2.2 130 a2.fC).bind λx5=>
 some (x2.1,x5)
def nX (a0:aG) (a1:aH) (a2:Int):Option (List aL):=
 (bN a0.p_.bF a2).bind λx1=>
 hY (0<=x1.bC/\x1.bC<=(x1.aX.length:Int)) <|
 some (x1.aX.take (x1.bC.toNat))
def sY (a0:Int) (a1:Int):Option Bool:=
 (if a0 == a1 then
    some true
   else
    if a0 == 1 then
     some (a1 == 2)
    else
     some false).bind λy1=>
 some y1
def mE (n:Nat) (a0:aG) (a1:aH) (a2:aD) (a3:Int):Option (aF × aH):=
 (bB a0 a1 (a2.bT == 15) 132 a2.fC).bind λx3=>
 (gA n a0 x3 a2).bind λx5=>
 ((eT a0 x5.2 x5.1).bind λx8=>
   if x8 == 4 then
    (bN a0.p_.bF a0.f_).bind λx11=>
    (bN x11.aX (max x5.1 0)).bind λx14=>
    (bB a0 x5.2 (x14.pB == a3) 132 a2.fC).bind λx15=>
    some x15
   else
    (bB a0 x5.2 false 132 a2.fC).bind λx40=>
    some x40).bind λy7=>
 some ((aF.mk ([118,97,114]:cJ) 4 0 x5.1 [] a2.fC),y7)
def mL (n:Nat) (a0:aG) (a1:aH) (a2:aD) (a3:aL):Option (aF × aH):=
 if a3.bT == 4 then
  (mE n a0 a1 a2 a3.pB).bind λx5=>
  some (x5.1,x5.2)
 else
  if a3.bT == 1 then
   (eJ n a0 a1 a2).bind λx8=>
   some (x8.1,x8.2)
  else
   (gB n a0 a1 a2).bind λx10=>
   (sY x10.1.cK a3.bT).bind λx13=>
   (bB a0 x10.2 x13 132 a2.fC).bind λx14=>
   some (x10.1,x14)
@[go_sem] def kR (n:Nat) (a2:aD) (x20:(List aL)) (a0:aG) (x7:(List Int)) (x4:(Int × aH)):Nat->Int->aH->aC->Option (aH × aC)
 | 0,_,_,_=>none
 | c29+1,v25,v26,v27=>
   if decide (v25<(a2.aP.length:Int)) then
    (bN a2.aP v25).bind λx34=>
    if v26.e_ != 0 then
     some (v26,v27)
    else
     (bN x20 v25).bind λx41=>
     (mL n ({ a0 with cB:=(a0.cB.set a0.fL.toNat (x7++[x4.1])) }:aG) v26 x34 x41).bind λx42=>
     hY (v27.aP.length+[x42.1].length<=1073741824) <|
     kR n a2 x20 a0 x7 x4 c29 (i64.wrap (v25+1)) x42.2 ({ v27 with aP:=(v27.aP++[x42.1]) }:aC)
   else
    some (v26,v27)
def iY (n:Nat) (a0:aG) (a1:aH) (a2:aD) (a3:aC) (a4:Int):Option (aC × aG × aH):=
 (mJ n a0 a1 a2).bind λx4=>
 if x4.2.e_ != 0 then
  some (({ a3 with iB:=([99,97,108,108]:cJ),gC:=a4,iC:=x4.1,aP:=[] }:aC),a0,x4.2)
 else
  (bN a0.cB a0.fL).bind λx7=>
  hY (x7.length+1<=1073741824) <|
  (nX ({ a0 with cB:=(a0.cB.set a0.fL.toNat (x7++[x4.1])) }:aG) x4.2 x4.1).bind λx20=>
  (bB ({ a0 with cB:=(a0.cB.set a0.fL.toNat (x7++[x4.1])) }:aG) x4.2 ((a2.aP.length:Int) == (x20.length:Int)) 136 a2.fC).bind λx22=>
  (kR n a2 x20 a0 x7 x4 n 0 x22 ({ a3 with iB:=([99,97,108,108]:cJ),gC:=a4,iC:=x4.1,aP:=[] }:aC)).bind λy28=>
  some (y28.2,({ a0 with cB:=(a0.cB.set a0.fL.toNat (x7++[x4.1])) }:aG),y28.1)
def jL (n:Nat) (a0:aG) (a1:aH) (a2:aD):Option Bool:=
 (if a2.bT == 17 then
    (uC n a2.cW).bind λx4=>
    some (x4 == 0)
   else
    some false).bind λy2=>
 some y2
def oU (n:Nat) (a0:aG) (a1:aH) (a2:aD) (a3:aC):Option (aC × aG × aH):=
 (bN a2.aP 0).bind λx4=>
 (jL n a0 a1 x4).bind λx5=>
 if x5 then
  (iY n a0 a1 x4 ({ a3 with aP:=[] }:aC) (-1:Int)).bind λx13=>
  if x13.2.2.e_ != 0 then
   some (({ x13.1 with fC:=a2.fC }:aC),x13.2.1,x13.2.2)
  else
   (bN x13.2.1.p_.bF x13.1.iC).bind λx16=>
   (bB x13.2.1 x13.2.2 (x16.bR != 0) 132 a2.fC).bind λx30=>
   (eD n x13.2.1 x30 (aL.mk a2.cW x16.bR 0) a2.fC).bind λx32=>
   some (({ x13.1 with gC:=x32.1,fC:=a2.fC }:aC),x32.2.1,x32.2.2)
 else
  (gB n a0 a1 x4).bind λx34=>
  (sV x34.1.cK).bind λx37=>
  (eD n a0 x34.2 (aL.mk a2.cW x37 0) a2.fC).bind λx38=>
  some (({ a3 with iB:=([118,97,114]:cJ),gC:=x38.1,aP:=[x34.1] }:aC),x38.2.1,x38.2.2)
def nD (n:Nat) (a0:aG) (a1:aH) (a2:aD):Option (Int × aH):=
 (gA n a0 a1 a2).bind λx2=>
 (eT a0 x2.2 x2.1).bind λx4=>
 (if x4 == 2 then
    (bB a0 x2.2 true 132 a2.fC).bind λx8=>
    some x8
   else
    (bB a0 x2.2 (x4 == 3) 132 a2.fC).bind λx10=>
    some x10).bind λy6=>
 some (x2.1,y6)
def qC (n:Nat) (a0:aG) (a1:aH) (a2:aD) (a3:aC):Option (aC × aG × aH):=
 (nD n a0 a1 a2).bind λx4=>
 (bN a2.aP 0).bind λx6=>
 (jL n a0 x4.2 x6).bind λx7=>
 if x7 then
  (iY n a0 x4.2 x6 ({ a3 with aP:=[] }:aC) x4.1).bind λx15=>
  if x15.2.2.e_ == 0 then
   (eT x15.2.1 x15.2.2 x4.1).bind λx18=>
   (bN x15.2.1.p_.bF x15.1.iC).bind λx19=>
   (bB x15.2.1 x15.2.2 (x19.bR == x18) 132 a2.fC).bind λx21=>
   some (({ x15.1 with fC:=a2.fC }:aC),x15.2.1,x21)
  else
   some (({ x15.1 with fC:=a2.fC }:aC),x15.2.1,x15.2.2)
 else
  (gB n a0 x4.2 x6).bind λx36=>
  (eT a0 x36.2 x4.1).bind λx39=>
  (sY x36.1.cK x39).bind λx40=>
  (bB a0 x36.2 x40 132 a2.fC).bind λx41=>
  some (({ a3 with iB:=([115,101,116]:cJ),gC:=x4.1,aP:=[x36.1] }:aC),a0,x41)
def oT (n:Nat) (a0:aG) (a1:aH) (a2:aD) (a3:Int):Option (aF × aH):=
 (eJ n a0 a1 a2).bind λx3=>
 (if x3.2.e_ == 0 then
    some (decide (x3.1.iB=([110,117,109]:cJ)))
   else
    some false).bind λy6=>
 if y6 then
  (bN a0.p_.bF a0.f_).bind λx12=>
  (bN x12.aX a3).bind λx15=>
  (bB a0 x3.2 (decide ((i64.wrap x3.1.N_)<x15.pB)) 137 a2.fC).bind λx16=>
  some (x3.1,x16)
 else
  some (x3.1,x3.2)
def qD (n:Nat) (a0:aG) (a1:aH) (a2:aD) (a3:aC):Option (aC × aH):=
 (gA n a0 a1 a2).bind λx4=>
 (eT a0 x4.2 x4.1).bind λx6=>
 (bB a0 x4.2 (x6 == 4) 132 a2.fC).bind λx7=>
 (bN a2.aP 0).bind λx10=>
 (oT n a0 x7 x10 x4.1).bind λx11=>
 (bN a2.aP 1).bind λx19=>
 (gB n a0 x11.2 x19).bind λx20=>
 (sY x20.1.cK 2).bind λx28=>
 (bB a0 x20.2 x28 132 a2.fC).bind λx29=>
 some (({ a3 with iB:=([112,117,116]:cJ),gC:=x4.1,aP:=[x11.1,x20.1] }:aC),x29)
def pL (n:Nat) (a0:aG) (a1:aH) (a2:aD) (a3:aC) (a4:Bool):Option (aC × aG × aH):=
 (if a4 then
    (bN a0.p_.bF a0.f_).bind λx6=>
    (bB a0 a1 (x6.bR != 0) 135 a2.fC).bind λx9=>
    some x9
   else
    (bB a0 a1 false 135 a2.fC).bind λx24=>
    some x24).bind λy4=>
 (if y4.e_ == 0 then
    (bN a2.aP 0).bind λx31=>
    (jL n a0 y4 x31).bind λx32=>
    some x32
   else
    some false).bind λy29=>
 if y29 then
  (bN a2.aP 0).bind λx43=>
  (iY n a0 y4 x43 ({ a3 with aP:=[] }:aC) (-2:Int)).bind λx44=>
  if x44.2.2.e_ == 0 then
   (bN x44.2.1.p_.bF x44.1.iC).bind λx52=>
   (bN x44.2.1.p_.bF x44.2.1.f_).bind λx54=>
   (bB x44.2.1 x44.2.2 (x52.bR == x54.bR) 132 a2.fC).bind λx57=>
   some (({ x44.1 with fC:=a2.fC }:aC),x44.2.1,x57)
  else
   some (({ x44.1 with fC:=a2.fC }:aC),x44.2.1,x44.2.2)
 else
  (bN a2.aP 0).bind λx83=>
  (gB n a0 y4 x83).bind λx84=>
  (bN a0.p_.bF a0.f_).bind λx92=>
  (sY x84.1.cK x92.bR).bind λx95=>
  (bB a0 x84.2 x95 132 a2.fC).bind λx96=>
  some (({ a3 with iB:=([114,101,116,117,114,110]:cJ),aP:=[x84.1] }:aC),a0,x96)
@[go_sem] def kE (dO:aG->aH->aD->Bool->Option (aC × aG × aH)) (a2:aD) (a3:Bool):Nat->(List aC)->Int->aG->aH->Option ((List aC) × aG × aH)
 | 0,_,_,_,_=>none
 | c9+1,v4,v5,v6,v7=>
   if decide (v5<(a2.aP.length:Int)) then
    (bN a2.aP v5).bind λx14=>
    if v7.e_ != 0 then
     some (v4,v6,v7)
    else
     (if a3 then
        (dO v6 v7 x14 (v5 == (i64.wrap ((a2.aP.length:Int) - 1)))).bind λx28=>
        hY (v4.length+[x28.1].length<=1073741824) <|
        some ((v4++[x28.1]),x28.2.1,x28.2.2)
       else
        (dO v6 v7 x14 false).bind λx33=>
        hY (v4.length+[x33.1].length<=1073741824) <|
        some ((v4++[x33.1]),x33.2.1,x33.2.2)).bind λy26=>
     kE dO a2 a3 c9 y26.1 (i64.wrap (v5+1)) y26.2.1 y26.2.2
   else
    some (v4,v6,v7)
def nG (dO:aG->aH->aD->Bool->Option (aC × aG × aH)) (n:Nat) (a0:aG) (a1:aH) (a2:aD) (a3:Bool):Option ((List aC) × aG × aH):=
 (kE dO a2 a3 n [] 0 a0 a1).bind λy8=>
 hY (0<=(a0.bI.length:Int)/\(a0.bI.length:Int)<=(y8.2.1.bI.length:Int)) <|
 some (y8.1,({ y8.2.1 with bI:=(y8.2.1.bI.take (a0.bI.length)) }:aG),y8.2.2)
@[go_sem] def fQ (cQ:aG->aH->aD->Bool->Option ((List aC) × aG × aH)) (a2:aD):Nat->Int->aG->aH->aC->Option (aG × aH × aC)
 | 0,_,_,_,_=>none
 | c59+1,v54,v55,v56,v57=>
   if decide (v54<((a2.aP.drop 2).length:Int)) then
    (bN (a2.aP.drop 2) v54).bind λx64=>
    (cQ v55 v56 x64 false).bind λx70=>
    fQ cQ a2 c59 (i64.wrap (v54+1)) x70.2.1 x70.2.2 ({ v57 with gT:=x70.1 }:aC)
   else
    some (v55,v56,v57)
def kL (cQ:aG->aH->aD->Bool->Option ((List aC) × aG × aH)) (pE:aG->aH->aD->aC->Option (aC × aG × aH)) (n:Nat) (a0:aG) (a1:aH) (a2:aD) (a3:Bool):Option (aC × aG × aH):=
 if a2.bT == 5 then
  (bN a2.aP 0).bind λx5=>
  (eJ n a0 a1 x5).bind λx6=>
  (eD n a0 x6.2 (aL.mk a2.cW 1 0) a2.fC).bind λx13=>
  some ((aC.mk ([108,101,116]:cJ) x13.1 0 [x6.1] [] [] a2.fC),x13.2.1,x13.2.2)
 else
  if a2.bT == 6 then
   (oU n a0 a1 a2 (aC.mk [] (-1:Int) 0 [] [] [] a2.fC)).bind λx16=>
   some (x16.1,x16.2.1,x16.2.2)
  else
   if a2.bT == 7 then
    (wJ (i64.wrap (min a2.pO 1025))).bind λx19=>
    (bB a0 a1 x19 136 a2.fC).bind λx20=>
    (eD n a0 x20 (aL.mk a2.cW 4 (i64.wrap a2.pO)) a2.fC).bind λx23=>
    some ((aC.mk ([97,114,114]:cJ) x23.1 0 [] [] [] a2.fC),x23.2.1,x23.2.2)
   else
    if a2.bT == 8 then
     (qC n a0 a1 a2 (aC.mk [] (-1:Int) 0 [] [] [] a2.fC)).bind λx26=>
     some (x26.1,x26.2.1,x26.2.2)
    else
     if a2.bT == 9 then
      (qD n a0 a1 a2 (aC.mk [] (-1:Int) 0 [] [] [] a2.fC)).bind λx29=>
      some (x29.1,a0,x29.2)
     else
      if a2.bT == 10 then
       (iY n a0 a1 a2 (aC.mk [] (-1:Int) 0 [] [] [] a2.fC) (-1:Int)).bind λx32=>
       some (x32.1,x32.2.1,x32.2.2)
      else
       if a2.bT == 11 then
        (bN a2.aP 0).bind λx35=>
        (eJ n a0 a1 x35).bind λx36=>
        (bN a2.aP 1).bind λx43=>
        (cQ a0 x36.2 x43 false).bind λx44=>
        hY ((0:Int)<=2/\2<=(a2.aP.length:Int)) <|
        (fQ cQ a2 n 0 x44.2.1 x44.2.2 (aC.mk ([105,102]:cJ) (-1:Int) 0 [x36.1] x44.1 [] a2.fC)).bind λy58=>
        some (y58.2.2,y58.1,y58.2.1)
       else
        if a2.bT == 12 then
         (pE a0 a1 a2 (aC.mk [] (-1:Int) 0 [] [] [] a2.fC)).bind λx73=>
         some (x73.1,x73.2.1,x73.2.2)
        else
         if a2.bT == 13 then
          (pL n a0 a1 a2 (aC.mk [] (-1:Int) 0 [] [] [] a2.fC) a3).bind λx76=>
          some (x76.1,x76.2.1,x76.2.2)
         else
          some ((aC.mk [] (-1:Int) 0 [] [] [] a2.fC),a0,a1)
def nY (cQ:aG->aH->aD->Bool->Option ((List aC) × aG × aH)) (n:Nat) (a0:aG) (a1:aH) (a2:aD) (a3:aC):Option (aC × aG × aH):=
 (bN a2.aP 0).bind λx4=>
 (eJ n a0 a1 x4).bind λx5=>
 (bN a2.aP 1).bind λx6=>
 (eJ n a0 x5.2 x6).bind λx7=>
 (eD n a0 x7.2 (aL.mk a2.cW 1 0) a2.fC).bind λx21=>
 (bN a2.aP 2).bind λx23=>
 (cQ x21.2.1 x21.2.2 x23 false).bind λx24=>
 hY (0<=(min (a0.bI.length:Int) (x24.2.1.bI.length:Int))/\(min (a0.bI.length:Int) (x24.2.1.bI.length:Int))<=(x24.2.1.bI.length:Int)) <|
 some (({ a3 with iB:=([102,111,114]:cJ),gC:=x21.1,aP:=[x5.1,x7.1],bV:=x24.1 }:aC),({ x24.2.1 with bI:=(x24.2.1.bI.take ((min (a0.bI.length:Int) (x24.2.1.bI.length:Int)).toNat)) }:aG),x24.2.2)
def dZ:Nat->(aG->aH->aD->Bool->Option ((List aC) × aG × aH)) × (aG->aH->aD->Bool->Option (aC × aG × aH)) × (aG->aH->aD->aC->Option (aC × aG × aH))
 | 0=>(λ_ _ _ _=>none,λ_ _ _ _=>none,λ_ _ _ _=>none)
 | n+1=>(nG (dZ n).2.1 n,kL (dZ n).1 (dZ n).2.2 n,nY (dZ n).1 n)
def tL (n:Nat):aG->aH->aD->Bool->Option ((List aC) × aG × aH):=(dZ n).1
def BR (n:Nat):aG->aH->aD->Bool->Option (aC × aG × aH):=(dZ n).2.1
def Fg (n:Nat):aG->aH->aD->aC->Option (aC × aG × aH):=(dZ n).2.2
def vB (a0:aD):Option Bool:=
 (if decide (0<(a0.aP.length:Int)) then
    (bN a0.aP (i64.wrap ((a0.aP.length:Int) - 1))).bind λx4=>
    some (x4.bT == 13)
   else
    some false).bind λy2=>
 some y2
@[go_sem] def iP (n:Nat) (a3:aD):Nat->Int->aG->aH->Option (aG × aH)
 | 0,_,_,_=>none
 | c11+1,v7,v8,v9=>
   if decide (v7<((a3.aP.drop (max (i64.wrap ((a3.aP.length:Int) - 1)) 0).toNat).length:Int)) then
    (bN (a3.aP.drop (max (i64.wrap ((a3.aP.length:Int) - 1)) 0).toNat) v7).bind λx16=>
    (bN v8.p_.bF v8.f_).bind λx22=>
    (tL n v8 v9 x16 true).bind λx25=>
    (bN x25.2.1.p_.bF v8.f_).bind λx26=>
    ((bN (x25.2.1.p_.bF.set v8.f_.toNat { x26 with bV:=x25.1 }) v8.f_).bind λx56=>
      if x56.bR == 0 then
       (bB ({ x25.2.1 with p_:=⟨(x25.2.1.p_.bF.set v8.f_.toNat { x26 with bV:=x25.1 })⟩ }:aG) x25.2.2 true 135 a3.fC).bind λx71=>
       some x71
      else
       (vB x16).bind λx73=>
       (bB ({ x25.2.1 with p_:=⟨(x25.2.1.p_.bF.set v8.f_.toNat { x26 with bV:=x25.1 })⟩ }:aG) x25.2.2 x73 135 a3.fC).bind λx74=>
       some x74).bind λy55=>
    iP n a3 c11 (i64.wrap (v7+1)) ({ x25.2.1 with p_:=⟨(x25.2.1.p_.bF.set v8.f_.toNat { x26 with bV:=x25.1 })⟩ }:aG) y55
   else
    some (v8,v9)
def lF (n:Nat) (a0:aG) (a1:aH) (a2:Int) (a3:aD):Option (aG × aH):=
 (mD n a0 a1 a2).bind λx2=>
 hY (0<=(max (i64.wrap ((a3.aP.length:Int) - 1)) 0)/\(max (i64.wrap ((a3.aP.length:Int) - 1)) 0)<=(a3.aP.length:Int)) <|
 (iP n a3 n 0 x2.1 x2.2).bind λy10=>
 some (y10.1,y10.2)
def vY (rec_:Int->List Int->Option (Bool × List Int)) (to:Int):List Int->List Int->Option (Bool × List Int)
 | [],seen=>some (false,seen)
 | k::ks,seen=>
   if k == to then some (true,seen)
   else
    (bN seen k).bind λs=>
    if i64.wrap (s+1) == 1 then
     (rec_ k (seen.set k.toNat (i64.wrap (s+1)))).bind λr=>
     if r.1=true then some (true,r.2) else vY rec_ to ks r.2
    else vY rec_ to ks (seen.set k.toNat (i64.wrap (s+1)))
def kP:Nat->aG->Int->Int->List Int->Option (Bool × List Int)
 | 0,_,_,_,_=>none
 | n+1,c,fr,to,seen=>(bN c.cB fr).bind λl=>hY (l.length<=1073741824) <| vY (λk s=>kP n c k to s) to l seen
abbrev Look:=Int->aD->aG->aH->Option (aG × aH)
def sW (look:Look):List aD->Nat->aG->aH->Option (aG × aH)
 | [],_,c,w=>some (c,w)
 | f::l,i,c,w=>if w.e_ == 0 then (look i f c w).bind λr=>sW look l (i+1) r.1 r.2 else sW look l (i+1) c w
def wK (nodes:List aD):List Look->aG->aH->Option (aG × aH)
 | [],c,w=>some (c,w)
 | look::ls,c,w=>(sW look nodes 0 c w).bind λr=>wK nodes ls r.1 r.2
def zD (n len:Nat) (c:aG):List aD->Nat->aH->Option aH
 | [],_,w=>some w
 | f::l,i,w=>if w.e_ == 0 then (kP n c i i (List.replicate len 0)).bind λr=>(bB c w (!r.1) 134 f.fC).bind λw'=>zD n len c l (i+1) w' else zD n len c l (i+1) w
def Ag (n:Nat) (a0:cJ):Option (bL × Int × Int):=
 (zQ n a0).bind λp=>
 if p.2.1 != 0 then some (⟨[]⟩,p.2.1,p.2.2)
 else
  (oS n aG.Z ⟨0,0⟩ p.1).bind λa=>
  hY (p.1.aP.length<=1073741824) <|
  (wK p.1.aP [λi f c w=>lD n c w i f,λi f c w=>lF n c w i f] a.1 a.2).bind λb=>
  (zD n p.1.aP.length b.1 p.1.aP 0 b.2).bind λw=>
  if w.e_ != 0 then some (⟨[]⟩,w.e_,w.Cw) else some (b.1.p_,0,0)
structure aJ where
 p_:bL
 f_:aS
 eX:Int
 e_:Int
def dK (a0:aJ):Option aJ:=
 if decide (16384<(i64.wrap (a0.eX+1))) then
  some ({ a0 with eX:=(i64.wrap (a0.eX+1)),e_:=161 }:aJ)
 else
  some ({ a0 with eX:=(i64.wrap (a0.eX+1)) }:aJ)
def xJ (a0:Int) (a1:(List Int)):Option Int:=
 (if decide (a0<0) then
    some true
   else
    some (decide ((a1.length:Int)<=a0))).bind λy1=>
 if y1 then
  some a0
 else
  (bN a1 a0).bind λx7=>
  some x7
def tZ (tX:(List aF)->(List Int)->Option (List aF)) (n:Nat) (a0:aF) (a1:(List Int)):Option aF:=
 (xJ a0.gC a1).bind λx3=>
 (tX a0.aP a1).bind λx5=>
 some ({ a0 with gC:=x3,aP:=x5 }:aF)
@[go_sem] def tI (qO:aF->(List Int)->Option aF) (a0:(List aF)) (a1:(List Int)):Nat->(List aF)->Int->Option (List aF)
 | 0,_,_=>none
 | c5+1,v2,v3=>
   if decide (v3<(a0.length:Int)) then
    (bN a0 v3).bind λx10=>
    (qO x10 a1).bind λx16=>
    hY (v2.length+[x16].length<=1073741824) <|
    tI qO a0 a1 c5 (v2++[x16]) (i64.wrap (v3+1))
   else
    some v2
def sT (qO:aF->(List Int)->Option aF) (n:Nat) (a0:(List aF)) (a1:(List Int)):Option (List aF):=
 (tI qO a0 a1 n [] 0).bind λy4=>
 some y4
def zH:Nat->(aF->(List Int)->Option aF) × ((List aF)->(List Int)->Option (List aF))
 | 0=>(λ_ _=>none,λ_ _=>none)
 | n+1=>(tZ (zH n).2 n,sT (zH n).1 n)
def qQ (n:Nat):aF->(List Int)->Option aF:=(zH n).1
def sU (n:Nat):(List aF)->(List Int)->Option (List aF):=(zH n).2
def dJ (a0:aJ) (a1:aL):Option (Int × aJ):=
 if decide (4096<=(a0.f_.aX.length:Int)) then
  some (0,({ a0 with e_:=161 }:aJ))
 else
  hY (a0.f_.aX.length+[a1].length<=1073741824) <|
  some ((i64.wrap (((a0.f_.aX++[a1]).length:Int) - 1)),({ a0 with f_:=({ a0.f_ with aX:=(a0.f_.aX++[a1]) }:aS) }:aJ))
@[go_sem] def eH (n:Nat) (a1:aC) (a3:(List Int)) (a2:aS):Nat->(List aC)->(List Int)->Int->aJ->Option ((List aC) × (List Int) × aJ)
 | 0,_,_,_,_=>none
 | c9+1,v4,v5,v6,v7=>
   if decide (v6<(a1.aP.length:Int)) then
    ((bN a1.aP v6).bind λx15=>
      if x15.cK == 4 then
       (xJ x15.gC a3).bind λx22=>
       hY (v5.length+[x22].length<=1073741824) <|
       some (v4,(v5++[x22]),v7)
      else
       (bN a2.aX v6).bind λx29=>
       if x29.bT == 1 then
        (dK v7).bind λx35=>
        (dJ x35 x29).bind λx37=>
        hY (v5.length+[x37.1].length<=1073741824) <|
        (qQ n x15 a3).bind λx44=>
        hY (v4.length+[(aC.mk ([108,101,116]:cJ) x37.1 0 [x44] [] [] a1.fC)].length<=1073741824) <|
        some ((v4++[(aC.mk ([108,101,116]:cJ) x37.1 0 [x44] [] [] a1.fC)]),(v5++[x37.1]),x37.2)
       else
        (dK v7).bind λx49=>
        (dJ x49 x29).bind λx51=>
        hY (v5.length+[x51.1].length<=1073741824) <|
        (qQ n x15 a3).bind λx58=>
        hY (v4.length+[(aC.mk ([118,97,114]:cJ) x51.1 0 [x58] [] [] a1.fC)].length<=1073741824) <|
        some ((v4++[(aC.mk ([118,97,114]:cJ) x51.1 0 [x58] [] [] a1.fC)]),(v5++[x51.1]),x51.2)).bind λy14=>
    eH n a1 a3 a2 c9 y14.1 y14.2.1 (i64.wrap (v6+1)) y14.2.2
   else
    some (v4,v5,v7)
def mC (n:Nat) (a0:aJ) (a1:aC) (a2:aS) (a3:(List Int)):Option ((List aC) × (List Int) × aJ):=
 (eH n a1 a3 a2 n [] [] 0 a0).bind λy8=>
 some (y8.1,y8.2.1,y8.2.2)
def jJ (a0:aJ) (a1:aC) (a2:(List Int)) (a3:aC):Option aC:=
 (bN a0.p_.bF a1.iC).bind λx4=>
 if a1.gC == (-2:Int) then
  if decide (a3.fC<0) then
   some ({ a3 with fC:=a1.fC }:aC)
  else
   some a3
 else
  if a1.gC == (-1:Int) then
   some (aC.mk ([118,97,114]:cJ) (-1:Int) x4.bR [] [] [] a1.fC)
  else
   (xJ a1.gC a2).bind λx12=>
   some (aC.mk ([115,101,116]:cJ) x12 0 [] [] [] a1.fC)
def eE (a0:aJ) (a1:aF) (a2:aC):Option (aC × aJ):=
 if decide (a2.iB=([118,97,114]:cJ)) then
  (dJ a0 (aL.mk [] a2.iC 0)).bind λx5=>
  some (({ a2 with gC:=x5.1,iC:=0,aP:=[a1] }:aC),x5.2)
 else
  some (({ a2 with iC:=0,aP:=[a1] }:aC),a0)
@[go_sem] def dC (eA:aJ->aC->(List Int)->aC->Option ((List aC) × aJ)) (a1:(List aC)) (a2:(List Int)) (a3:aC):Nat->(List aC)->Int->aJ->Option (((List aC) × aJ) ⊕ ((List aC) × aJ))
 | 0,_,_,_=>none
 | c7+1,v3,v4,v5=>
   if decide (v4<(a1.length:Int)) then
    (bN a1 v4).bind λx12=>
    if v5.e_ != 0 then
     some (.inr ([],v5))
    else
     (eA v5 x12 a2 a3).bind λx19=>
     hY (v3.length+x19.1.length<=1073741824) <|
     dC eA a1 a2 a3 c7 (v3++x19.1) (i64.wrap (v4+1)) x19.2
   else
    some (.inl (v3,v5))
def fE (eA:aJ->aC->(List Int)->aC->Option ((List aC) × aJ)) (n:Nat) (a0:aJ) (a1:(List aC)) (a2:(List Int)) (a3:aC):Option ((List aC) × aJ):=
 (dC eA a1 a2 a3 n [] 0 a0).bind λy6=>
 y6.elim (λy6a=>
  some (y6a.1,y6a.2)) (λy6a=>
  some y6a)
def dU (oJ:aJ->aC->(List Int)->aC->Option ((List aC) × aJ)) (dR:aJ->(List aC)->(List Int)->aC->Option ((List aC) × aJ)) (n:Nat) (a0:aJ) (a1:aC) (a2:(List Int)) (a3:aC):Option ((List aC) × aJ):=
 if decide (a1.iB=([99,97,108,108]:cJ)) then
  (oJ a0 a1 a2 a3).bind λx4=>
  some (x4.1,x4.2)
 else
  (dK a0).bind λx6=>
  if decide (a1.iB=([114,101,116,117,114,110]:cJ)) then
   (bN a1.aP 0).bind λx9=>
   (qQ n x9 a2).bind λx10=>
   if decide (a3.fC<0) then
    (eE x6 x10 ({ a3 with fC:=a1.fC }:aC)).bind λx19=>
    some ([x19.1],x19.2)
   else
    (eE x6 x10 a3).bind λx21=>
    some ([x21.1],x21.2)
  else
   (xJ a1.gC a2).bind λx23=>
   (sU n a1.aP a2).bind λx24=>
   (dR x6 a1.bV a2 a3).bind λx27=>
   (dR x27.2 a1.gT a2 a3).bind λx28=>
   some ([({ a1 with gC:=x23,aP:=x24,bV:=x27.1,gT:=x28.1 }:aC)],x28.2)
@[go_sem] def eG (x5:aS):Nat->(List Int)->Int->aJ->Option ((List Int) × aJ)
 | 0,_,_,_=>none
 | c20+1,v16,v17,v18=>
   if decide (v17<((x5.aX.drop x5.bC.toNat).length:Int)) then
    (bN (x5.aX.drop x5.bC.toNat) v17).bind λx25=>
    (dJ v18 x25).bind λx31=>
    hY (v16.length+[x31.1].length<=1073741824) <|
    eG x5 c20 (v16++[x31.1]) (i64.wrap (v17+1)) x31.2
   else
    some (v16,v18)
def fN (dR:aJ->(List aC)->(List Int)->aC->Option ((List aC) × aJ)) (n:Nat) (a0:aJ) (a1:aC) (a2:(List Int)) (a3:aC):Option ((List aC) × aJ):=
 (dK a0).bind λx3=>
 (bN x3.p_.bF a1.iC).bind λx5=>
 (mC n x3 a1 x5 a2).bind λx11=>
 hY (0<=x5.bC/\x5.bC<=(x5.aX.length:Int)) <|
 (eG x5 n x11.2.1 0 x11.2.2).bind λy19=>
 if y19.2.e_ != 0 then
  some ([],y19.2)
 else
  (jJ y19.2 a1 a2 a3).bind λx48=>
  (dR y19.2 x5.bV y19.1 x48).bind λx49=>
  hY (x11.1.length+x49.1.length<=1073741824) <|
  some ((x11.1++x49.1),x49.2)
def gH:Nat->(aJ->(List aC)->(List Int)->aC->Option ((List aC) × aJ)) × (aJ->aC->(List Int)->aC->Option ((List aC) × aJ)) × (aJ->aC->(List Int)->aC->Option ((List aC) × aJ))
 | 0=>(λ_ _ _ _=>none,λ_ _ _ _=>none,λ_ _ _ _=>none)
 | n+1=>(fE (gH n).2.1 n,dU (gH n).2.2 (gH n).1 n,fN (gH n).1 n)
def dV (n:Nat):aJ->(List aC)->(List Int)->aC->Option ((List aC) × aJ):=(gH n).1
def fJ (n:Nat):aJ->aC->(List Int)->aC->Option ((List aC) × aJ):=(gH n).2.1
def kH (n:Nat):aJ->aC->(List Int)->aC->Option ((List aC) × aJ):=(gH n).2.2
def wG (n:Nat) (a0:bL) (a1:Int):Option (aS × Int):=
 (if decide (a1<0) then
    some true
   else
    some (decide ((a0.bF.length:Int)<=a1))).bind λy3=>
 if y3 then
  some ((aS.mk [] false 0 0 [] []),11)
 else
  (bN a0.bF a1).bind λx9=>
  hY (x9.aX.length<=1073741824) <|
  (dV n (aJ.mk a0 x9 0 0) x9.bV [] (aC.mk ([114,101,116,117,114,110]:cJ) (-1:Int) 0 [] [] [] (-1:Int))).bind λx17=>
  if x17.2.e_ != 0 then
   some ((aS.mk [] false 0 0 [] []),x17.2.e_)
  else
   some (({ x17.2.f_ with bV:=x17.1 }:aS),0)
structure aN where
 iB:Int
 N_:Int
 aP:(List aN)
mutual
def aN.C:aN->List V
 | ⟨a0,a1,a2⟩=>[.lit (.int .i64 a0),.lit (.int .u32 a1),.list .none (aN.CL a2)]
def aN.CL:List aN->List (List V)
 | []=>[]
 | x::l=>aN.C x::aN.CL l
end
theorem aN.CL_eq (l:List aN):aN.CL l=l.map aN.C:=by
 induction l with
 | nil=>rfl
 | cons x l ih=>rw [aN.CL,ih];rfl
@[go_sem] theorem aN.C_eq (x:aN):aN.C x=[.lit (.int .i64 x.iB),.lit (.int .u32 x.N_),.list .none (x.aP.map aN.C)]:=by
 cases x;simp only [aN.C,aN.CL_eq]
def aN.Z:aN:=⟨0,0,[]⟩
structure bH where
 bP:(List aN)
 dT:(List Int)
 tT:(List Int)
 pC:(List Int)
def bH.C (x:bH):List V:=[.list .none (x.bP.map aN.C),.list .none (x.dT.map (cI .i64)),.list .none (x.tT.map (cI .u32)),.list .none (x.pC.map (cI .u32))]
@[go_sem] theorem bH.C_eq (x:bH):bH.C x=[.list .none (x.bP.map aN.C),.list .none (x.dT.map (cI .i64)),.list .none (x.tT.map (cI .u32)),.list .none (x.pC.map (cI .u32))]:=rI rfl
structure aT where
 c_:bH
 e_:Int
structure eI where
 fL:Int
def eI.C (x:eI):List V:=[.lit (.int .i64 x.fL)]
@[go_sem] theorem eI.C_eq (x:eI):eI.C x=[.lit (.int .i64 x.fL)]:=rI rfl
structure dF where
 uI:(List Int)
 sZ:(List Int)
 bR:Int
 FC:Int
def dF.C (x:dF):List V:=[.list .none (x.uI.map (cI .i64)),.list .none (x.sZ.map (cI .i64)),.lit (.int .i64 x.bR),.lit (.int .i64 x.FC)]
@[go_sem] theorem dF.C_eq (x:dF):dF.C x=[.list .none (x.uI.map (cI .i64)),.list .none (x.sZ.map (cI .i64)),.lit (.int .i64 x.bR),.lit (.int .i64 x.FC)]:=rI rfl
structure T_frame_Arg where
 Reg_:Int
 uI:Int
@[go_sem] def xP (jX:(List aC)->Option Int) (a0:(List aC)):Nat->Int->Int->Option Int
 | 0,_,_=>none
 | c5+1,v2,v3=>
   if decide (v3<(a0.length:Int)) then
    ((bN a0 v3).bind λx11=>
      if decide (x11.iB=([102,111,114]:cJ)) then
       (jX x11.bV).bind λx18=>
       (jX x11.gT).bind λx19=>
       some (i64.wrap ((i64.wrap (v2+1))+(i64.wrap (x18+x19))))
      else
       (jX x11.bV).bind λx22=>
       (jX x11.gT).bind λx23=>
       some (i64.wrap (v2+(i64.wrap (x22+x23))))).bind λy10=>
    xP jX a0 c5 y10 (i64.wrap (v3+1))
   else
    some v2
def vA (jX:(List aC)->Option Int) (n:Nat) (a0:(List aC)):Option Int:=
 (xP jX a0 n 0 0).bind λy4=>
 some y4
def wH:Nat->(List aC)->Option Int
 | 0=>λ_=>none
 | n+1=>vA (wH n) n
def sN (a0:List Int) (a1:Int):Option (List Int):=if a0.length=1/\a1=4 then some (a0++a0++a0++a0) else none
def DU (a0:Int):Option aN:=
 some (aN.mk 2 (u32.wrap a0) [])
@[go_sem] def zF (pJ:aN->Option Int) (a0:aN):Nat->Int->Int->Option Int
 | 0,_,_=>none
 | c6+1,v3,v4=>
   if decide (v4<(a0.aP.length:Int)) then
    (bN a0.aP v4).bind λx11=>
    (pJ x11).bind λx17=>
    zF pJ a0 c6 (i64.wrap (v3+x17)) (i64.wrap (v4+1))
   else
    some v3
def wT (pJ:aN->Option Int) (n:Nat) (a0:aN):Option Int:=
 (zF pJ a0 n 1 0).bind λy5=>
 some y5
def vN:Nat->aN->Option Int
 | 0=>λ_=>none
 | n+1=>wT (vN n) n
@[go_sem] def gN (fY:bH->aF->Option Int) (a1:aF) (a0:bH):Nat->Int->Int->Option Int
 | 0,_,_=>none
 | c18+1,v15,v16=>
   if decide (v16<(a1.aP.length:Int)) then
    (bN a1.aP v16).bind λx23=>
    (fY a0 x23).bind λx29=>
    gN fY a1 a0 c18 (i64.wrap (v15+x29)) (i64.wrap (v16+1))
   else
    some v15
def eK (fY:bH->aF->Option Int) (n:Nat) (a0:bH) (a1:aF):Option Int:=
 if decide (a1.iB=([118,97,114]:cJ)) then
  (bN a0.bP a1.gC).bind λx4=>
  (vN n x4).bind λx5=>
  some x5
 else
  (gN fY a1 a0 n 1 0).bind λy17=>
  some y17
def iA:Nat->bH->aF->Option Int
 | 0=>λ_ _=>none
 | n+1=>eK (iA n) n
def AQ (a0:aN) (a1:(List Int)):Option Int:=
 if a0.iB == 1 then
  some a0.N_
 else
  if decide ((i64.wrap a0.N_)<(a1.length:Int)) then
   (bN a1 a0.N_).bind λx4=>
   some x4
  else
   some 0
def tU (a0:Bool):Option Int:=
 if a0 then
  some 1
 else
  some 0
def zL (a0:Int) (a1:Int):Option Int:=
 if a0 == 3 then
  some (comK .u32 a1)
 else
  some (u32.wrap (0 - a1))
def lM (a0:Int) (a1:Int):Option Int:=
 hY (0<=(AO .u64 (u64.wrap a1) 31)) <|
 hY (0<=(u64.wrap (32 - (AO .u64 (u64.wrap a1) 31)))) <|
 some (orK .u32 (shlK .u32 a0 (AO .u64 (u64.wrap a1) 31)) (Qy .u32 a0 (u64.wrap (32 - (AO .u64 (u64.wrap a1) 31)))))
def yQ (a0:Int) (a1:Int) (a2:Int):Option Int:=
 if a0 == 5 then
  some (orK .u32 a1 a2)
 else
  if a0 == 6 then
   some (xorK .u32 a1 a2)
  else
   if a0 == 7 then
    some (AO .u32 a1 a2)
   else
    if a0 == 10 then
     hY (0<=(AO .u32 a2 31)) <|
     some (shlK .u32 a1 (AO .u32 a2 31))
    else
     if a0 == 11 then
      hY (0<=(AO .u32 a2 31)) <|
      some (Qy .u32 a1 (AO .u32 a2 31))
     else
      (lM a1 (i64.wrap (AO .u32 a2 31))).bind λx8=>
      some x8
def Dj (a0:Int) (a1:Int) (a2:Int):Option (Int × Bool):=
 if a0 == 8 then
  (tU (a1 == a2)).bind λx2=>
  some (x2,true)
 else
  if a0 == 9 then
   (tU (decide (a1<a2))).bind λx5=>
   some (x5,true)
  else
   if a0 == 13 then
    some ((u32.wrap (a1+a2)),true)
   else
    if a0 == 14 then
     some ((u32.wrap (a1 - a2)),true)
    else
     if a0 == 15 then
      some ((u32.wrap (a1*a2)),true)
     else
      if a0 == 16 then
       if a2 == 0 then
        some (0,false)
       else
        hY (a2 ≠ 0) <|
        some ((u32.wrap (a1.tdiv a2)),true)
      else
       if a0 == 17 then
        if a2 == 0 then
         some (0,false)
        else
         hY (a2 ≠ 0) <|
         some ((a1.tmod a2),true)
       else
        (yQ a0 a1 a2).bind λx16=>
        some (x16,true)
def mV (tG:aN->(List Int)->Option (Int × Bool)) (n:Nat) (a0:aN) (a1:(List Int)):Option (Int × Bool):=
 if (a0.aP.length:Int) == 0 then
  (AQ a0 a1).bind λx3=>
  some (x3,true)
 else
  (bN a0.aP 0).bind λx5=>
  (tG x5 a1).bind λx6=>
  (if !x6.2 then
     some true
    else
     some ((a0.aP.length:Int) == 1)).bind λy13=>
  if y13 then
   (tU x6.2).bind λx19=>
   (zL a0.iB x6.1).bind λx20=>
   some ((u32.wrap (x19*x20)),x6.2)
  else
   (bN a0.aP 1).bind λx23=>
   (tG x23 a1).bind λx24=>
   if !x24.2 then
    some (0,false)
   else
    (Dj a0.iB x6.1 x24.1).bind λx32=>
    some (x32.1,x32.2)
def sB:Nat->aN->(List Int)->Option (Int × Bool)
 | 0=>λ_ _=>none
 | n+1=>mV (sB n) n
def FE (a0:Int):Option aN:=
 some (aN.mk 1 a0 [])
@[go_sem] def pD (qN:aN->Option aN) (a0:aN):Nat->Bool->Int->aN->Option (Bool × aN)
 | 0,_,_,_=>none
 | c9+1,v5,v6,v7=>
   if decide (v6<(a0.aP.length:Int)) then
    (bN a0.aP v6).bind λx14=>
    (qN x14).bind λx20=>
    hY (v7.aP.length+[x20].length<=1073741824) <|
    (if v5 then
       some (x20.iB == 1)
      else
       some false).bind λy26=>
    pD qN a0 c9 y26 (i64.wrap (v6+1)) ({ v7 with aP:=(v7.aP++[x20]) }:aN)
   else
    some (v5,v7)
def mU (qN:aN->Option aN) (n:Nat) (a0:aN):Option aN:=
 (pD qN a0 n (a0.iB != 2) 0 (aN.mk a0.iB a0.N_ [])).bind λy8=>
 if !y8.1 then
  some y8.2
 else
  (sB n y8.2 []).bind λx38=>
  if x38.2=true then
   (FE x38.1).bind λx41=>
   some x41
  else
   some y8.2
def oX:Nat->aN->Option aN
 | 0=>λ_=>none
 | n+1=>mU (oX n) n
@[go_sem] def AI (a0:cJ):Nat->Int->Option (Unit ⊕ Int)
 | 0,_=>none
 | c4+1,v2=>
   if decide (v2<15) then
    (bN dP v2).bind λx9=>
    if decide (x9.Ih=a0) then
     some (.inr x9.op_)
    else
     AI a0 c4 (i64.wrap (v2+1))
   else
    some (.inl ())
def AV (n:Nat) (a0:cJ):Option Int:=
 (AI a0 n 0).bind λy3=>
 y3.elim (λy3a=>
  some 0) (λy3a=>
  some y3a)
@[go_sem] def jM (gM:bH->aF->Option aN) (a1:aF) (a0:bH):Nat->Int->aN->Option aN
 | 0,_,_=>none
 | c23+1,v20,v21=>
   if decide (v20<(a1.aP.length:Int)) then
    (bN a1.aP v20).bind λx28=>
    (gM a0 x28).bind λx34=>
    hY (v21.aP.length+[x34].length<=1073741824) <|
    jM gM a1 a0 c23 (i64.wrap (v20+1)) ({ v21 with aP:=(v21.aP++[x34]) }:aN)
   else
    some v21
def eY (gM:bH->aF->Option aN) (n:Nat) (a0:bH) (a1:aF):Option aN:=
 if decide (a1.iB=([110,117,109]:cJ)) then
  (FE a1.N_).bind λx5=>
  some x5
 else
  if decide (a1.iB=([118,97,114]:cJ)) then
   (bN a0.bP a1.gC).bind λx8=>
   some x8
  else
   (AV n a1.iB).bind λx16=>
   (jM gM a1 a0 n 0 (aN.mk x16 0 [])).bind λy22=>
   some y22
def iN:Nat->bH->aF->Option aN
 | 0=>λ_ _=>none
 | n+1=>eY (iN n) n
def oY (n:Nat) (a0:bH) (a1:aF):Option (aN × Int):=
 if a1.cK != 1 then
  some ((aN.mk 0 0 []),132)
 else
  (iA n a0 a1).bind λx5=>
  if decide (2000<x5) then
   some ((aN.mk 0 0 []),161)
  else
   (iN n a0 a1).bind λx8=>
   (oX n x8).bind λx9=>
   some (x9,0)
def lA (n:Nat) (a0:aT) (a1:aF):Option (aN × aT):=
 (oY n a0.c_ a1).bind λx3=>
 if a0.e_ == 0 then
  some (x3.1,({ a0 with e_:=x3.2 }:aT))
 else
  some (x3.1,a0)
@[go_sem] def pU (n:Nat) (a1:aF):Nat->Int->aT->Option aT
 | 0,_,_=>none
 | c30+1,v27,v28=>
   if decide (v27<(a1.aP.length:Int)) then
    (bN a1.aP v27).bind λx35=>
    (lA n v28 x35).bind λx41=>
    pU n a1 c30 (i64.wrap (v27+1)) x41.2
   else
    some v28
@[go_sem] def pV (fX:aT->aF->Option aT) (a1:aF):Nat->Int->aT->Option aT
 | 0,_,_=>none
 | c6+1,v3,v4=>
   if decide (v3<(a1.aP.length:Int)) then
    (bN a1.aP v3).bind λx11=>
    (fX v4 x11).bind λx17=>
    pV fX a1 c6 (i64.wrap (v3+1)) x17
   else
    some v4
def nV (fX:aT->aF->Option aT) (n:Nat) (a0:aT) (a1:aF):Option aT:=
 (pV fX a1 n 0 a0).bind λy5=>
 (if decide (a1.iB=([105,110,100,101,120]:cJ)) then
    some true
   else
    if decide (a1.iB=([47]:cJ)) then
     some true
    else
     some (decide (a1.iB=([37]:cJ)))).bind λy43=>
 if y43 then
  (pU n a1 n 0 y5).bind λy53=>
  some y53
 else
  some y5
def lC:Nat->aT->aF->Option aT
 | 0=>λ_ _=>none
 | n+1=>nV (lC n) n
def DT (a0:(List Int)) (a1:Int) (a2:Int):Option Int:=
 if decide ((i64.wrap a1)<(a0.length:Int)) then
  (bN a0 a1).bind λx2=>
  some x2
 else
  some a2
def rK (a0:Int) (a1:Int) (a2:Int):Option (Int × Int):=
 some ((u32.wrap (u64.wrap ((u64.wrap ((u64.wrap a0)+(u64.wrap a1)))+(u64.wrap a2)))),(u32.wrap (Qy .u64 (u64.wrap ((u64.wrap ((u64.wrap a0)+(u64.wrap a1)))+(u64.wrap a2))) 32)))
def Dk (a0:bW) (a1:bW):Option bW:=
 (rK a0.HI a1.HI 0).bind λx4=>
 (rK a0.yN a1.yN 0).bind λx6=>
 if x6.2 == 1 then
  some (bW.mk 0 4294967295)
 else
  some (bW.mk x4.1 x6.1)
def tD (a0:Int) (a1:Int):Option (Int × Int):=
 some ((u32.wrap (Qy .u64 (u64.wrap ((u64.wrap a0)*(u64.wrap a1))) 32)),(u32.wrap (u64.wrap ((u64.wrap a0)*(u64.wrap a1)))))
def uF (a0:bW) (a1:bW):Option bW:=
 (tD a0.yN a1.yN).bind λx4=>
 if decide (0<x4.1) then
  some (bW.mk 0 4294967295)
 else
  some (bW.mk (u32.wrap (a0.HI*a1.HI)) x4.2)
def vW (a0:Int) (a1:bW) (a2:bW):Option bW:=
 if a0 == 8 then
  some (bW.mk 0 1)
 else
  if a0 == 9 then
   some (bW.mk 0 1)
  else
   if a0 == 7 then
    some (bW.mk 0 (min a1.yN a2.yN))
   else
    if a0 == 13 then
     (Dk a1 a2).bind λx8=>
     some x8
    else
     if a0 == 14 then
      if decide (a2.yN<=a1.HI) then
       some (bW.mk (u32.wrap (a1.HI - a2.yN)) (u32.wrap (a1.yN - a2.HI)))
      else
       some (bW.mk 0 4294967295)
     else
      if a0 == 15 then
       (uF a1 a2).bind λx13=>
       some x13
      else
       if a0 == 16 then
        hY ((max a2.yN 1) ≠ 0) <|
        hY ((max a2.HI 1) ≠ 0) <|
        some (bW.mk (u32.wrap (a1.HI.tdiv (max a2.yN 1))) (u32.wrap (a1.yN.tdiv (max a2.HI 1))))
       else
        if a0 == 17 then
         some (bW.mk 0 (min a1.yN (u32.wrap ((max a2.yN 1) - 1))))
        else
         if a0 == 11 then
          some (bW.mk 0 a1.yN)
         else
          some (bW.mk 0 4294967295)
def nL (sE:aN->(List Int)->(List Int)->Option bW) (n:Nat) (a0:aN) (a1:(List Int)) (a2:(List Int)):Option bW:=
 if a0.iB == 1 then
  some (bW.mk a0.N_ a0.N_)
 else
  if a0.iB == 2 then
   (DT a1 a0.N_ 0).bind λx5=>
   (DT a2 a0.N_ 4294967295).bind λx6=>
   some (bW.mk x5 x6)
  else
   if a0.iB == 3 then
    some (bW.mk 0 4294967295)
   else
    if a0.iB == 4 then
     some (bW.mk 0 4294967295)
    else
     (bN a0.aP 0).bind λx11=>
     (sE x11 a1 a2).bind λx12=>
     (bN a0.aP 1).bind λx13=>
     (sE x13 a1 a2).bind λx14=>
     (vW a0.iB x12 x14).bind λx15=>
     some x15
def sQ:Nat->aN->(List Int)->(List Int)->Option bW
 | 0=>λ_ _ _=>none
 | n+1=>nL (sQ n) n
def Bb (n:Nat) (a0:aN) (a1:(List Int)) (a2:(List Int)):Option (Int × Int):=
 (sQ n a0 a1 a2).bind λx2=>
 some (x2.HI,x2.yN)
def gJ (n:Nat) (a0:bH) (a1:aF):Option (Int × Int):=
 (oY n a0 a1).bind λx3=>
 if x3.2 != 0 then
  some (0,4294967295)
 else
  (Bb n x3.1 a0.tT a0.pC).bind λx7=>
  some (x7.1,x7.2)
def lB (n:Nat) (a0:aT) (a1:aC):Option aT:=
 (bN a1.aP 0).bind λx2=>
 (gJ n a0.c_ x2).bind λx3=>
 (bN a1.aP 1).bind λx10=>
 (gJ n a0.c_ x10).bind λx11=>
 (DU (i64.wrap (4+(a0.c_.dT.length:Int)))).bind λx18=>
 (bN a0.c_.bP a1.gC).bind λx19=>
 hY (a0.c_.dT.length+[a1.gC].length<=1073741824) <|
 hY (a0.c_.tT.length+[x3.1].length<=1073741824) <|
 hY (a0.c_.pC.length+[(max x3.1 (u32.wrap ((max x11.2 1) - 1)))].length<=1073741824) <|
 some ({ a0 with c_:=(bH.mk (a0.c_.bP.set a1.gC.toNat x18) (a0.c_.dT++[a1.gC]) (a0.c_.tT++[x3.1]) (a0.c_.pC++[(max x3.1 (u32.wrap ((max x11.2 1) - 1)))])) }:aT)
@[go_sem] def mI (n:Nat) (x11:aC):Nat->Int->aT->Option aT
 | 0,_,_=>none
 | c21+1,v18,v19=>
   if decide (v18<(x11.aP.length:Int)) then
    ((bN x11.aP v18).bind λx27=>
      (lC n v19 x27).bind λx33=>
      (if decide (x11.iB=([108,101,116]:cJ)) then
         some true
        else
         if decide (x11.iB=([105,102]:cJ)) then
          some true
         else
          if decide (x11.iB=([102,111,114]:cJ)) then
           some true
          else
           if decide (x11.iB=([112,117,116]:cJ)) then
            some (v18 == 0)
           else
            some false).bind λy35=>
      if y35 then
       (lA n x33 x27).bind λx44=>
       if decide (x11.iB=([108,101,116]:cJ)) then
        (bN x44.2.c_.bP x11.gC).bind λx48=>
        some ({ x44.2 with c_:=({ x44.2.c_ with bP:=(x44.2.c_.bP.set x11.gC.toNat x44.1) }:bH) }:aT)
       else
        some x44.2
      else
       some x33).bind λy26=>
    mI n x11 c21 (i64.wrap (v18+1)) y26
   else
    some v19
@[go_sem] def fZ (dL:aT->(List aC)->Option aT) (n:Nat) (a1:(List aC)):Nat->Int->aT->Option (aT ⊕ aT)
 | 0,_,_=>none
 | c5+1,v2,v3=>
   if decide (v2<(a1.length:Int)) then
    ((bN a1 v2).bind λx11=>
      (mI n x11 n 0 v3).bind λy20=>
      (if y20.e_ == 0 then
         some (decide (x11.iB=([102,111,114]:cJ)))
        else
         some false).bind λy79=>
      if y79 then
       (lB n y20 x11).bind λx85=>
       if x85.e_ != 0 then
        some (.inr x85)
       else
        (dL x85 x11.bV).bind λx88=>
        (dL x88 x11.gT).bind λx90=>
        some (.inl x90)
      else
       if y20.e_ != 0 then
        some (.inr y20)
       else
        (dL y20 x11.bV).bind λx93=>
        (dL x93 x11.gT).bind λx95=>
        some (.inl x95):Option (aT ⊕ aT)).bind λy10=>
    y10.elim (λy10a=>
     fZ dL n a1 c5 (i64.wrap (v2+1)) y10a) (λy10a=>
     some (.inr y10a))
   else
    some (.inl v3)
def nB (dL:aT->(List aC)->Option aT) (n:Nat) (a0:aT) (a1:(List aC)):Option aT:=
 (fZ dL n a1 n 0 a0).bind λy4=>
 y4.elim (λy4a=>
  some y4a) (λy4a=>
  some y4a)
def fP:Nat->aT->(List aC)->Option aT
 | 0=>λ_ _=>none
 | n+1=>nB (fP n) n
@[go_sem] def rL (a0:aS):Nat->Int->aT->Option aT
 | 0,_,_=>none
 | c29+1,v26,v27=>
   if decide (v26<((a0.aX.take a0.bC.toNat).length:Int)) then
    ((bN (a0.aX.take a0.bC.toNat) v26).bind λx35=>
      if x35.bT == 1 then
       (DU v26).bind λx42=>
       (bN v27.c_.bP v26).bind λx43=>
       some ({ v27 with c_:=({ v27.c_ with bP:=(v27.c_.bP.set v26.toNat x42) }:bH) }:aT)
      else
       some v27).bind λy34=>
    rL a0 c29 (i64.wrap (v26+1)) y34
   else
    some v27
def xR (n:Nat) (a0:aS):Option (bH × Int):=
 (if decide (4<a0.bC) then
    some true
   else
    (wH n a0.bV).bind λx5=>
    some (decide (250<x5))).bind λy3=>
 if y3 then
  some ((bH.mk [] [] [] []),136)
 else
  (sN [4294967295] 4).bind λx11=>
  hY (0<=(a0.aX.length:Int)/\(a0.aX.length:Int)<=1073741824) <|
  hY (0<=a0.bC/\a0.bC<=(a0.aX.length:Int)) <|
  (rL a0 n 0 (aT.mk (bH.mk (List.replicate a0.aX.length aN.Z) [] [0,0,0,0] x11) 0)).bind λy28=>
  (fP n y28 a0.bV).bind λx60=>
  if x60.e_ != 0 then
   some ((bH.mk [] [] [] []),x60.e_)
  else
   some (x60.c_,0)
def mR (n:Nat) (a0:cJ) (a1:Int):Option (aS × bH × Bool):=
 if decide (2000<(a0.length:Int)) then
  some ((aS.mk [] false 0 0 [] []),(bH.mk [] [] [] []),false)
 else
  (Ag n a0).bind λx4=>
  if x4.2.1 != 0 then
   some ((aS.mk [] false 0 0 [] []),(bH.mk [] [] [] []),false)
  else
   (wG n x4.1 a1).bind λx8=>
   if x8.2 != 0 then
    some ((aS.mk [] false 0 0 [] []),(bH.mk [] [] [] []),false)
   else
    (xR n x8.1).bind λx12=>
    some (x8.1,x12.1,(x12.2 == 0))
def jI (a0:eI) (a1:Int):Option (Int × eI):=
 if a1 == 0 then
  some ((-1:Int),a0)
 else
  some (a0.fL,(eI.mk (i64.wrap (a0.fL+(i64.wrap (4*a1))))))
def yZ (a0:aS) (a1:bH) (a2:Int):Option Int:=
 (bN a0.aX a2).bind λx3=>
 (if x3.bT == 1 then
    (bN a1.bP a2).bind λx11=>
    some (x11.iB == 1)
   else
    some false).bind λy9=>
 if y9 then
  some 0
 else
  if x3.bT == 3 then
   some 2
  else
   (if x3.bT == 4 then
      some (decide (a0.bC<=a2))
     else
      some false).bind λy21=>
   if y21 then
    some x3.pB
   else
    some 1
def qT (a0:aS):Option Int:=
 if a0.bR == 2 then
  some 1
 else
  if a0.bR == 3 then
   some 2
  else
   some 0
@[go_sem] def AK (a1:bH):Nat->Int->eI->dF->Option (eI × dF)
 | 0,_,_,_=>none
 | c28+1,v24,v25,v26=>
   if decide (v24<(a1.dT.length:Int)) then
    (jI v25 1).bind λx33=>
    hY (v26.sZ.length+[x33.1].length<=1073741824) <|
    AK a1 c28 (i64.wrap (v24+1)) x33.2 ({ v26 with sZ:=(v26.sZ++[x33.1]) }:dF)
   else
    some (v25,v26)
@[go_sem] def AL (a0:aS) (a1:bH):Nat->Int->eI->dF->Option (eI × dF)
 | 0,_,_,_=>none
 | c11+1,v7,v8,v9=>
   if decide (v7<(a0.aX.length:Int)) then
    (yZ a0 a1 v7).bind λx16=>
    (jI v8 x16).bind λx17=>
    hY (v9.uI.length+[x17.1].length<=1073741824) <|
    AL a0 a1 c11 (i64.wrap (v7+1)) x17.2 ({ v9 with uI:=(v9.uI++[x17.1]) }:dF)
   else
    some (v8,v9)
def zA (n:Nat) (a0:aS) (a1:bH):Option (dF × Int):=
 (AL a0 a1 n 0 (eI.mk 0) (dF.mk [] [] 0 0)).bind λy10=>
 (AK a1 n 0 y10.1 y10.2).bind λy52=>
 (qT a0).bind λx68=>
 (jI y52.1 x68).bind λx69=>
 if decide (1016<x69.2.fL) then
  some ((dF.mk [] [] 0 0),160)
 else
  some (({ y52.2 with bR:=x69.1,FC:=x69.2.fL }:dF),0)
def lI (n:Nat):Option Bool:=
 (mR n ([102,110,32,102,40,97,58,32,91,52,93,44,32,122,58,32,117,54,52,44,32,112,58,32,112,117,98,41,32,123,32,97,114,114,32,116,91,51,93,59,32,125]:cJ) 0).bind λx1=>
 (zA n x1.1 x1.2.1).bind λx5=>
 (if x1.2.2=true then
    if x5.2 == 0 then
     if (x5.1.uI.length:Int) == 4 then
      (bN x5.1.uI 0).bind λx12=>
      if x12 == 0 then
       (bN x5.1.uI 1).bind λx19=>
       if x19 == 4 then
        (bN x5.1.uI 2).bind λx26=>
        if x26 == 12 then
         (bN x5.1.uI 3).bind λx33=>
         if x33 == 16 then
          if x5.1.FC == 28 then
           some (x5.1.bR == (-1:Int))
          else
           some false
         else
          some false
        else
         some false
       else
        some false
      else
       some false
     else
      some false
    else
     some false
   else
    some false).bind λy8=>
 some y8
def mB (a0:aS) (a1:bH) (a2:Int):Option Int:=
 (bN a0.aX a2).bind λx3=>
 (if x3.bT == 1 then
    if decide (a2<(a1.bP.length:Int)) then
     (bN a1.bP a2).bind λx12=>
     some (x12.iB == 1)
    else
     some false
   else
    some false).bind λy9=>
 if y9 then
  some 0
 else
  if x3.bT == 3 then
   some 2
  else
   (if x3.bT == 4 then
      some (decide (a0.bC<=a2))
     else
      some false).bind λy22=>
   if y22 then
    some x3.pB
   else
    some 1
@[go_sem] def eP (x9:(dF × Int)) (v13:Int):Nat->Int->Option (Unit ⊕ Bool)
 | 0,_=>none
 | c74+1,v72=>
   if decide (v72<(x9.1.sZ.length:Int)) then
    (bN x9.1.sZ v72).bind λx79=>
    if x79 != (i64.wrap (v13+(i64.wrap (4*v72)))) then
     some (.inr false)
    else
     eP x9 v13 c74 (i64.wrap (v72+1))
   else
    some (.inl ())
@[go_sem] def eQ (v14:(List Int)) (x9:(dF × Int)):Nat->Int->Option (Unit ⊕ Bool)
 | 0,_=>none
 | c55+1,v53=>
   if decide (v53<(v14.length:Int)) then
    (bN x9.1.uI v53).bind λx60=>
    (bN v14 v53).bind λx61=>
    if x60 != x61 then
     some (.inr false)
    else
     eQ v14 x9 c55 (i64.wrap (v53+1))
   else
    some (.inl ())
@[go_sem] def mP (x4:(aS × bH × Bool)):Nat->Int->(List Int)->Int->Option (Int × (List Int))
 | 0,_,_,_=>none
 | c17+1,v13,v14,v15=>
   if decide (v15<(x4.1.aX.length:Int)) then
    ((mB x4.1 x4.2.1 v15).bind λx23=>
      if x23 == 0 then
       hY (v14.length+[(-1:Int)].length<=1073741824) <|
       some (v13,(v14++[(-1:Int)]))
      else
       hY (v14.length+[v13].length<=1073741824) <|
       some ((i64.wrap (v13+(i64.wrap (4*x23)))),(v14++[v13]))).bind λy22=>
    mP x4 c17 y22.1 y22.2 (i64.wrap (v15+1))
   else
    some (v13,v14)
def lQ (n:Nat) (a0:cJ) (a1:Int):Option Bool:=
 (lI n).bind λx1=>
 if !x1 then
  some false
 else
  (mR n a0 a1).bind λx4=>
  if !x4.2.2 then
   some true
  else
   (zA n x4.1 x4.2.1).bind λx9=>
   (mP x4 n 0 [] 0).bind λy16=>
   if x4.1.bR != 0 then
    if x4.1.bR == 3 then
     if decide (1016<(i64.wrap ((i64.wrap ((i64.wrap (y16.1+(i64.wrap (4*(x4.2.1.dT.length:Int)))))+4))+4))) then
      (if x9.2 == 160 then
         some ((x9.1.uI.length:Int) == 0)
        else
         some false).bind λy289=>
      some y289
     else
      (if x9.2 != 0 then
         some true
        else
         if x9.1.FC != (i64.wrap ((i64.wrap ((i64.wrap (y16.1+(i64.wrap (4*(x4.2.1.dT.length:Int)))))+4))+4)) then
          some true
         else
          if x9.1.bR != (i64.wrap (y16.1+(i64.wrap (4*(x4.2.1.dT.length:Int))))) then
           some true
          else
           if (x9.1.uI.length:Int) != (y16.2.length:Int) then
            some true
           else
            some ((x9.1.sZ.length:Int) != (x4.2.1.dT.length:Int))).bind λy294=>
      if y294 then
       some false
      else
       (eQ y16.2 x9 n 0).bind λy305=>
       y305.elim (λy305a=>
        (eP x9 y16.1 n 0).bind λy338=>
        y338.elim (λy338a=>
         some true) (λy338a=>
         some y338a)) (λy305a=>
        some y305a)
    else
     if decide (1016<(i64.wrap ((i64.wrap (y16.1+(i64.wrap (4*(x4.2.1.dT.length:Int)))))+4))) then
      (if x9.2 == 160 then
         some ((x9.1.uI.length:Int) == 0)
        else
         some false).bind λy351=>
      some y351
     else
      (if x9.2 != 0 then
         some true
        else
         if x9.1.FC != (i64.wrap ((i64.wrap (y16.1+(i64.wrap (4*(x4.2.1.dT.length:Int)))))+4)) then
          some true
         else
          if x9.1.bR != (i64.wrap (y16.1+(i64.wrap (4*(x4.2.1.dT.length:Int))))) then
           some true
          else
           if (x9.1.uI.length:Int) != (y16.2.length:Int) then
            some true
           else
            some ((x9.1.sZ.length:Int) != (x4.2.1.dT.length:Int))).bind λy356=>
      if y356 then
       some false
      else
       (eQ y16.2 x9 n 0).bind λy367=>
       y367.elim (λy367a=>
        (eP x9 y16.1 n 0).bind λy400=>
        y400.elim (λy400a=>
         some true) (λy400a=>
         some y400a)) (λy367a=>
        some y367a)
   else
    if x4.1.bR == 3 then
     if decide (1016<(i64.wrap ((i64.wrap (y16.1+(i64.wrap (4*(x4.2.1.dT.length:Int)))))+4))) then
      (if x9.2 == 160 then
         some ((x9.1.uI.length:Int) == 0)
        else
         some false).bind λy414=>
      some y414
     else
      (if x9.2 != 0 then
         some true
        else
         if x9.1.FC != (i64.wrap ((i64.wrap (y16.1+(i64.wrap (4*(x4.2.1.dT.length:Int)))))+4)) then
          some true
         else
          if x9.1.bR != (-1:Int) then
           some true
          else
           if (x9.1.uI.length:Int) != (y16.2.length:Int) then
            some true
           else
            some ((x9.1.sZ.length:Int) != (x4.2.1.dT.length:Int))).bind λy419=>
      if y419 then
       some false
      else
       (eQ y16.2 x9 n 0).bind λy430=>
       y430.elim (λy430a=>
        (eP x9 y16.1 n 0).bind λy463=>
        y463.elim (λy463a=>
         some true) (λy463a=>
         some y463a)) (λy430a=>
        some y430a)
    else
     if decide (1016<(i64.wrap (y16.1+(i64.wrap (4*(x4.2.1.dT.length:Int)))))) then
      (if x9.2 == 160 then
         some ((x9.1.uI.length:Int) == 0)
        else
         some false).bind λy476=>
      some y476
     else
      (if x9.2 != 0 then
         some true
        else
         if x9.1.FC != (i64.wrap (y16.1+(i64.wrap (4*(x4.2.1.dT.length:Int))))) then
          some true
         else
          if x9.1.bR != (-1:Int) then
           some true
          else
           if (x9.1.uI.length:Int) != (y16.2.length:Int) then
            some true
           else
            some ((x9.1.sZ.length:Int) != (x4.2.1.dT.length:Int))).bind λy481=>
      if y481 then
       some false
      else
       (eQ y16.2 x9 n 0).bind λy492=>
       y492.elim (λy492a=>
        (eP x9 y16.1 n 0).bind λy525=>
        y525.elim (λy525a=>
         some true) (λy525a=>
         some y525a)) (λy492a=>
        some y492a)
