import Derived.Test.YtnnomaboaiokeaaGreatDoorGS3
namespace Go.Proofs.YtnnomaboaiokeaaGreatDoor.Abs
open IntKind (i64 u32 u64 u8)
open Go.RowKit
set_option linter.all false
structure bX where
 BF:Int
 rM:Int
def bX.C (x:bX):List V:=[.lit (.int .u32 x.BF),.lit (.int .u32 x.rM)]
@[go_sem] theorem bX.C_eq (x:bX):bX.C x=[.lit (.int .u32 x.BF),.lit (.int .u32 x.rM)]:=rI rfl
structure bJ where
 Qf:cJ
 Qw:Int
def bJ.C (x:bJ):List V:=[.lit (.string (bs x.Qf)),.lit (.int .i64 x.Qw)]
@[go_sem] theorem bJ.C_eq (x:bJ):bJ.C x=[.lit (.string (bs x.Qf)),.lit (.int .i64 x.Qw)]:=rI rfl
structure bZ where
 Iy:cJ
 op_:Int
def bZ.C (x:bZ):List V:=[.lit (.string (bs x.Iy)),.lit (.int .i64 x.op_)]
@[go_sem] theorem bZ.C_eq (x:bZ):bZ.C x=[.lit (.string (bs x.Iy)),.lit (.int .i64 x.op_)]:=rI rfl
structure dH where
 bS:Int
 fB:Int
 cZ:cJ
 oL:Int
def dH.C (x:dH):List V:=[.lit (.int .i64 x.bS),.lit (.int .i64 x.fB),.lit (.string (bs x.cZ)),.lit (.int .u32 x.oL)]
@[go_sem] theorem dH.C_eq (x:dH):dH.C x=[.lit (.int .i64 x.bS),.lit (.int .i64 x.fB),.lit (.string (bs x.cZ)),.lit (.int .u32 x.oL)]:=rI rfl
structure aD where
 bS:Int
 fB:Int
 cZ:cJ
 oL:Int
 aP:(List aD)
mutual
def aD.C:aD->List V
 | ⟨a0,a1,a2,a3,a4⟩=>[.lit (.int .i64 a0),.lit (.int .i64 a1),.lit (.string (bs a2)),.lit (.int .u32 a3),.list .none (aD.CL a4)]
def aD.CL:List aD->List (List V)
 | []=>[]
 | x::l=>aD.C x::aD.CL l
end
theorem aD.CL_eq (l:List aD):aD.CL l=l.map aD.C:=by
 induction l with
 | nil=>rfl
 | cons x l ih=>rw [aD.CL,ih];rfl
@[go_sem] theorem aD.C_eq (x:aD):aD.C x=[.lit (.int .i64 x.bS),.lit (.int .i64 x.fB),.lit (.string (bs x.cZ)),.lit (.int .u32 x.oL),.list .none (x.aP.map aD.C)]:=by
 cases x;simp only [aD.C,aD.CL_eq]
structure aE where
 l_:(List dH)
 fK:Int
 zJ:Int
 e_:Int
 CK:Int
def aE.C (x:aE):List V:=[.list .none (x.l_.map dH.C),.lit (.int .i64 x.fK),.lit (.int .i64 x.zJ),.lit (.int .i64 x.e_),.lit (.int .i64 x.CK)]
@[go_sem] theorem aE.C_eq (x:aE):aE.C x=[.list .none (x.l_.map dH.C),.lit (.int .i64 x.fK),.lit (.int .i64 x.zJ),.lit (.int .i64 x.e_),.lit (.int .i64 x.CK)]:=rI rfl
structure aL where
 fN:cJ
 bS:Int
 pI:Int
def aL.C (x:aL):List V:=[.lit (.string (bs x.fN)),.lit (.int .i64 x.bS),.lit (.int .i64 x.pI)]
@[go_sem] theorem aL.C_eq (x:aL):aL.C x=[.lit (.string (bs x.fN)),.lit (.int .i64 x.bS),.lit (.int .i64 x.pI)]:=rI rfl
structure aF where
 iD:cJ
 cL:Int
 N_:Int
 gB:Int
 aP:(List aF)
 fB:Int
mutual
def aF.C:aF->List V
 | ⟨a0,a1,a2,a3,a4,a5⟩=>[.lit (.string (bs a0)),.lit (.int .i64 a1),.lit (.int .u32 a2),.lit (.int .i64 a3),.list .none (aF.CL a4),.lit (.int .i64 a5)]
def aF.CL:List aF->List (List V)
 | []=>[]
 | x::l=>aF.C x::aF.CL l
end
theorem aF.CL_eq (l:List aF):aF.CL l=l.map aF.C:=by
 induction l with
 | nil=>rfl
 | cons x l ih=>rw [aF.CL,ih];rfl
@[go_sem] theorem aF.C_eq (x:aF):aF.C x=[.lit (.string (bs x.iD)),.lit (.int .i64 x.cL),.lit (.int .u32 x.N_),.lit (.int .i64 x.gB),.list .none (x.aP.map aF.C),.lit (.int .i64 x.fB)]:=by
 cases x;simp only [aF.C,aF.CL_eq]
structure aC where
 iD:cJ
 gB:Int
 iE:Int
 aP:(List aF)
 bY:(List aC)
 gT:(List aC)
 fB:Int
mutual
def aC.C:aC->List V
 | ⟨a0,a1,a2,a3,a4,a5,a6⟩=>[.lit (.string (bs a0)),.lit (.int .i64 a1),.lit (.int .i64 a2),.list .none (a3.map aF.C),.list .none (aC.CL a4),.list .none (aC.CL a5),.lit (.int .i64 a6)]
def aC.CL:List aC->List (List V)
 | []=>[]
 | x::l=>aC.C x::aC.CL l
end
theorem aC.CL_eq (l:List aC):aC.CL l=l.map aC.C:=by
 induction l with
 | nil=>rfl
 | cons x l ih=>rw [aC.CL,ih];rfl
@[go_sem] theorem aC.C_eq (x:aC):aC.C x=[.lit (.string (bs x.iD)),.lit (.int .i64 x.gB),.lit (.int .i64 x.iE),.list .none (x.aP.map aF.C),.list .none (x.bY.map aC.C),.list .none (x.gT.map aC.C),.lit (.int .i64 x.fB)]:=by
 cases x;simp only [aC.C,aC.CL_eq]
structure aR where
 fN:cJ
 dC:Bool
 bU:Int
 bC:Int
 aW:(List aL)
 bY:(List aC)
def aR.C (x:aR):List V:=[.lit (.string (bs x.fN)),.lit (.bool x.dC),.lit (.int .i64 x.bU),.lit (.int .i64 x.bC),.list .none (x.aW.map aL.C),.list .none (x.bY.map aC.C)]
@[go_sem] theorem aR.C_eq (x:aR):aR.C x=[.lit (.string (bs x.fN)),.lit (.bool x.dC),.lit (.int .i64 x.bU),.lit (.int .i64 x.bC),.list .none (x.aW.map aL.C),.list .none (x.bY.map aC.C)]:=rI rfl
structure bL where
 bF:(List aR)
def bL.C (x:bL):List V:=[.list .none (x.bF.map aR.C)]
@[go_sem] theorem bL.C_eq (x:bL):bL.C x=[.list .none (x.bF.map aR.C)]:=rI rfl
def bL.Z:bL:=⟨[]⟩
structure aH where
 e_:Int
 CK:Int
structure aG where
 p_:bL
 f_:Int
 bI:List Int
 cD:List (List Int)
 fK:Int
def aG.Z:aG:=⟨bL.Z,-1,[],[],0⟩
def qI (F fp S C:V) (x:aG) (y:aH):List V:=[F,fp,S,C,.lit (.int .i64 x.fK),.lit (.int .i64 y.e_),.lit (.int .i64 y.CK)]
@[go_sem] theorem ckC_eq {F fp S C:V} {x:aG} {y:aH}:qI F fp S C x y=[F,fp,S,C,.lit (.int .i64 x.fK),.lit (.int .i64 y.e_),.lit (.int .i64 y.CK)]:=rI rfl
def eY:List cJ:=[[45,62],[46,46],[61,61],[60,60,60],[60,60],[62,62],[60],[40],[41],[123],[125],[91],[93],[44],[59],[58],[61],[43],[45],[42],[47],[37],[38],[124],[94],[126]]
@[go_sem] theorem SJ:(cA cS eY).length=26:=by kernel_rfl
@[go_sem] theorem RE:(cA cS eY).take 26=(cA cS eY):=by kernel_rfl
def cF:List cJ:=[[102,110],[101,120,112,111,114,116],[108,101,116],[118,97,114],[97,114,114],[105,102],[101,108,115,101],[102,111,114],[105,110],[114,101,116,117,114,110],[112,117,98],[117,51,50],[117,54,52]]
@[go_sem] theorem Qm:(cA cS cF).length=13:=by kernel_rfl
@[go_sem] theorem OG:CD 1 13 (cA cS cF)=cF.map cS:=rI rfl
def cW:List (List cJ):=[[[124],[],[]],[[94],[],[]],[[38],[],[]],[[61,61],[60],[]],[[60,60],[62,62],[60,60,60]],[[43],[45],[]],[[42],[47],[37]]]
def cM:List bJ:=[(bJ.mk [115,101,108,101,99,116] 3),(bJ.mk [108,111,110,103] 1),(bJ.mk [108,111] 1),(bJ.mk [104,105] 1),(bJ.mk [119,105,100,101] 2)]
@[go_sem] theorem Qo:(cA bJ.C cM).length=10:=by kernel_rfl
@[go_sem] theorem Pp:(cA bJ.C cM).take 10=(cA bJ.C cM):=by kernel_rfl
@[go_sem] theorem NT:(cA bJ.C cM).map V.shared=(cA bJ.C cM):=rI rfl
def dR:List bZ:=[(bZ.mk [124] 5),(bZ.mk [94] 6),(bZ.mk [38] 7),(bZ.mk [61,61] 8),(bZ.mk [60] 9),(bZ.mk [60,60] 10),(bZ.mk [62,62] 11),(bZ.mk [60,60,60] 12),(bZ.mk [43] 13),(bZ.mk [45] 14),(bZ.mk [42] 15),(bZ.mk [47] 16),(bZ.mk [37] 17),(bZ.mk [110,111,116] 3),(bZ.mk [110,101,103] 4)]
@[go_sem] theorem RF:(cA bZ.C dR).length=30:=by kernel_rfl
@[go_sem] theorem Qn:(cA bZ.C dR).take 30=(cA bZ.C dR):=by kernel_rfl
@[go_sem] theorem OH:(cA bZ.C dR).map V.shared=(cA bZ.C dR):=rI rfl
def Bh (a0:Int):Option Bool:=
 (if a0 == 32 then
    some true
   else
    if a0 == 9 then
     some true
    else
     if a0 == 13 then
      some true
     else
      some (a0 == 10)).bind λy1=>
 some y1
def eZ (a0:cJ) (a1:cJ):Option Bool:=
 (if decide ((a1.length:Int)<=(a0.length:Int)) then
    gL (0<=(a1.length:Int)/\(a1.length:Int)<=(a0.length:Int)) <|
    some (decide ((a0.take (a1.length:Int).toNat)=a1))
   else
    some false).bind λy1=>
 some y1
def nT (a0:cJ) (a1:cJ):Option Bool:=
 (eZ a0 a1).bind λx1=>
 some x1
def oI (a0:cJ) (a1:Int):Option Int:=some (Lib.indexByte a0 a1.toNat.toUInt8)
def lS (a0:cJ) (a1:Int):Option Int:=
 (oI a0 a1).bind λx1=>
 some x1
def nS (a0:cJ) (a1:Int):Option Int:=
 (lS a0 a1).bind λx1=>
 some x1
@[go_sem] def Am (a0:cJ):Nat->Int->Option (Int ⊕ Int)
 | 0,_=>none
 | c4+1,v2=>
   if decide (v2<(a0.length:Int)) then
    (bM a0 v2).bind λx9=>
    (Bh (x9.toNat:Int)).bind λx10=>
    if x10 then
     Am a0 c4 (i64.wrap (v2+1))
    else
     gL (0<=v2/\v2<=(a0.length:Int)) <|
     (nT (a0.drop v2.toNat) ([47,47]:cJ)).bind λx17=>
     if x17 then
      gL (0<=v2/\v2<=(a0.length:Int)) <|
      (nS (a0.drop v2.toNat) 10).bind λx22=>
      if decide (x22<0) then
       some (.inr (a0.length:Int))
      else
       Am a0 c4 (i64.wrap (v2+x22))
     else
      some (.inr v2)
   else
    some (.inl v2)
def BG (n:Nat) (a0:cJ) (a1:Int):Option Int:=
 (Am a0 n a1).bind λy3=>
 y3.elim (λy3a=>
  some y3a) (λy3a=>
  some y3a)
def wC (a0:Int):Option Bool:=
 (if decide (97<=a0) then
    if decide (a0<=122) then
     some true
    else
     some (a0 == 95)
   else
    some (a0 == 95)).bind λy1=>
 some y1
def zL (a0:Int):Option Bool:=
 (if decide (48<=a0) then
    some (decide (a0<=57))
   else
    some false).bind λy1=>
 some y1
@[go_sem] def CA (a0:cJ):Nat->Int->Option (Unit ⊕ cJ)
 | 0,_=>none
 | c4+1,v2=>
   if decide (v2<(a0.length:Int)) then
    ((bM a0 v2).bind λx10=>
      (wC (x10.toNat:Int)).bind λx11=>
      if !x11 then
       (zL (x10.toNat:Int)).bind λx18=>
       some (!x18)
      else
       some false).bind λy9=>
    if y9 then
     gL (0<=v2/\v2<=(a0.length:Int)) <|
     some (.inr (a0.take v2.toNat))
    else
     CA a0 c4 (i64.wrap (v2+1))
   else
    some (.inl ())
def DS (n:Nat) (a0:cJ):Option cJ:=
 (CA a0 n 0).bind λy3=>
 y3.elim (λy3a=>
  some a0) (λy3a=>
  some y3a)
def iT (a0:cJ) (a1:cJ):Option (cJ × Bool):=
 (eZ a0 a1).bind λx1=>
 if !x1 then
  some (a0,false)
 else
  gL (0<=(a1.length:Int)/\(a1.length:Int)<=(a0.length:Int)) <|
  some ((a0.drop (a1.length:Int).toNat),true)
def pU (a0:cJ) (a1:cJ):Option (cJ × Bool):=
 (iT a0 a1).bind λx1=>
 some (x1.1,x1.2)
@[go_sem] def AY (x1:(cJ × Bool)):Nat->Int->Int->Option (Int ⊕ (Int × Bool))
 | 0,_,_=>none
 | c8+1,v5,v6=>
   if decide (v6<(x1.1.length:Int)) then
    gL ((0:Int)<=16/\16<=(([48,49,50,51,52,53,54,55,56,57,97,98,99,100,101,102]:cJ).length:Int)) <|
    (bM x1.1 v6).bind λx13=>
    (nS (([48,49,50,51,52,53,54,55,56,57,97,98,99,100,101,102]:cJ).take (16:Int).toNat) (x13.toNat:Int)).bind λx14=>
    (if decide (x14<0) then
       some true
      else
       some (decide (4294967295<(i64.wrap ((i64.wrap (v5*16))+x14))))).bind λy22=>
    if y22 then
     some (.inr (0,false))
    else
     AY x1 c8 (i64.wrap ((i64.wrap (v5*16))+x14)) (i64.wrap (v6+1))
   else
    some (.inl v5)
@[go_sem] def AX (a0:cJ):Nat->Int->Int->Option (Int ⊕ (Int × Bool))
 | 0,_,_=>none
 | c32+1,v29,v30=>
   if decide (v30<(a0.length:Int)) then
    gL ((0:Int)<=10/\10<=(([48,49,50,51,52,53,54,55,56,57,97,98,99,100,101,102]:cJ).length:Int)) <|
    (bM a0 v30).bind λx37=>
    (nS (([48,49,50,51,52,53,54,55,56,57,97,98,99,100,101,102]:cJ).take (10:Int).toNat) (x37.toNat:Int)).bind λx38=>
    (if decide (x38<0) then
       some true
      else
       some (decide (4294967295<(i64.wrap ((i64.wrap (v29*10))+x38))))).bind λy46=>
    if y46 then
     some (.inr (0,false))
    else
     AX a0 c32 (i64.wrap ((i64.wrap (v29*10))+x38)) (i64.wrap (v30+1))
   else
    some (.inl v29)
def Bg (n:Nat) (a0:cJ):Option (Int × Bool):=
 (pU a0 ([48,120]:cJ)).bind λx1=>
 if x1.2=true then
  (AY x1 n 0 0).bind λy7=>
  y7.elim (λy7a=>
   some ((u32.wrap y7a),(decide (x1.1 ≠ ([]:cJ))))) (λy7a=>
   some y7a)
 else
  (AX a0 n 0 0).bind λy31=>
  y31.elim (λy31a=>
   some ((u32.wrap y31a),(decide (a0 ≠ ([]:cJ))))) (λy31a=>
   some y31a)
@[go_sem] def CB (a0:cJ):Nat->Int->Option (Unit ⊕ cJ)
 | 0,_=>none
 | c4+1,v2=>
   if decide (v2<26) then
    (bM eY v2).bind λx9=>
    (nT a0 x9).bind λx17=>
    if x17 then
     some (.inr x9)
    else
     CB a0 c4 (i64.wrap (v2+1))
   else
    some (.inl ())
def DT (n:Nat) (a0:cJ):Option cJ:=
 (CB a0 n 0).bind λy3=>
 y3.elim (λy3a=>
  some ([]:cJ)) (λy3a=>
  some y3a)
def DU (n:Nat) (a0:cJ) (a1:Int):Option (dH × Int):=
 gL (0<=a1/\a1<=(a0.length:Int)) <|
 (DS n (a0.drop a1.toNat)).bind λx2=>
 (bM a0 a1).bind λx7=>
 (wC (x7.toNat:Int)).bind λx8=>
 if x8 then
  if decide (32<(x2.length:Int)) then
   some ((dH.mk 0 0 [] 0),102)
  else
   some ((dH.mk 1 a1 x2 0),0)
 else
  (zL (x7.toNat:Int)).bind λx16=>
  if x16 then
   (Bg n x2).bind λx19=>
   if !x19.2 then
    some ((dH.mk 0 0 [] 0),101)
   else
    some ((dH.mk 2 a1 x2 x19.1),0)
  else
   gL (0<=a1/\a1<=(a0.length:Int)) <|
   (DT n (a0.drop a1.toNat)).bind λx22=>
   if decide (x22=([]:cJ)) then
    some ((dH.mk 0 0 [] 0),100)
   else
    some ((dH.mk 3 a1 x22 0),0)
@[go_sem] def zW (n:Nat) (a0:cJ):Nat->(List dH)->Int->Option ((List dH) ⊕ ((List dH) × Int × Int))
 | 0,_,_=>none
 | c8+1,v5,v6=>
   if decide (v6<(a0.length:Int)) then
    (DU n a0 v6).bind λx13=>
    if x13.2 != 0 then
     some (.inr ([],x13.2,v6))
    else
     gL (v5.length+[x13.1].length<=1073741824) <|
     (BG n a0 (i64.wrap (v6+(x13.1.cZ.length:Int)))).bind λx20=>
     zW n a0 c8 (v5++[x13.1]) x20
   else
    some (.inl v5)
def zK (n:Nat) (a0:cJ):Option ((List dH) × Int × Int):=
 if decide (65536<(a0.length:Int)) then
  some ([],161,0)
 else
  (BG n a0 0).bind λx2=>
  (zW n a0 n [] x2).bind λy7=>
  y7.elim (λy7a=>
   gL (y7a.length+[(dH.mk 4 (a0.length:Int) [] 0)].length<=1073741824) <|
   some ((y7a++[(dH.mk 4 (a0.length:Int) [] 0)]),0,0)) (λy7a=>
   some y7a)
def dI (a0:aE):Option dH:=
 (bM a0.l_ a0.fK).bind λx2=>
 some x2
def gO (a0:aE) (a1:Int):Option aE:=
 if a0.e_ == 0 then
  (dI a0).bind λx2=>
  some ({ a0 with e_:=a1,CK:=x2.fB }:aE)
 else
  some a0
def eM (a0:aE) (a1:Int):Option (aD × aE):=
 if decide (16384<(i64.wrap (a0.zJ+1))) then
  (gO ({ a0 with zJ:=(i64.wrap (a0.zJ+1)) }:aE) 136).bind λx3=>
  (dI x3).bind λx5=>
  some ((aD.mk a1 x5.fB [] 0 []),x3)
 else
  (dI ({ a0 with zJ:=(i64.wrap (a0.zJ+1)) }:aE)).bind λx7=>
  some ((aD.mk a1 x7.fB [] 0 []),({ a0 with zJ:=(i64.wrap (a0.zJ+1)) }:aE))
@[go_sem] def kX (a0:(List cJ)) (a1:cJ):Nat->Int->Option (Unit ⊕ Int)
 | 0,_=>none
 | c4+1,v2=>
   if decide (v2<(a0.length:Int)) then
    (bM a0 v2).bind λx9=>
    if decide (a1=x9) then
     some (.inr v2)
    else
     kX a0 a1 c4 (i64.wrap (v2+1))
   else
    some (.inl ())
def jY (n:Nat) (a0:(List cJ)) (a1:cJ):Option Int:=
 (kX a0 a1 n 0).bind λy3=>
 y3.elim (λy3a=>
  some (-1:Int)) (λy3a=>
  some y3a)
def iK (n:Nat) (a0:(List cJ)) (a1:cJ):Option Bool:=
 (jY n a0 a1).bind λx1=>
 some (decide (0<=x1))
def wB (n:Nat) (a0:cJ):Option Bool:=
 (iK n cF a0).bind λx1=>
 some x1
def iV (n:Nat) (a0:aE) (a1:cJ):Option Bool:=
 (dI a0).bind λx1=>
 (if a0.e_ == 0 then
    if decide (x1.cZ=a1) then
     if x1.bS == 3 then
      some true
     else
      if x1.bS == 1 then
       (wB n a1).bind λx9=>
       some x9
      else
       some false
    else
     some false
   else
    some false).bind λy4=>
 some y4
def bW (n:Nat) (a0:aE) (a1:cJ):Option (Bool × aE):=
 (iV n a0 a1).bind λx1=>
 if !x1 then
  some (false,a0)
 else
  some (true,({ a0 with fK:=(i64.wrap (a0.fK+1)) }:aE))
def bQ (n:Nat) (a0:aE) (a1:cJ):Option aE:=
 (bW n a0 a1).bind λx1=>
 if !x1.1 then
  (gO x1.2 110).bind λx4=>
  some x4
 else
  some x1.2
def eA (n:Nat) (a0:aE):Option (cJ × aE):=
 (dI a0).bind λx1=>
 (if a0.e_ != 0 then
    some true
   else
    if x1.bS != 1 then
     some true
    else
     (wB n x1.cZ).bind λx7=>
     some x7).bind λy4=>
 if y4 then
  (gO a0 110).bind λx13=>
  some (([]:cJ),x13)
 else
  some (x1.cZ,({ a0 with fK:=(i64.wrap (a0.fK+1)) }:aE))
def kJ (a0:aE):Option (Int × aE):=
 (dI a0).bind λx1=>
 (if a0.e_ != 0 then
    some true
   else
    some (x1.bS != 2)).bind λy4=>
 if y4 then
  (gO a0 110).bind λx10=>
  some (0,x10)
 else
  some (x1.oL,({ a0 with fK:=(i64.wrap (a0.fK+1)) }:aE))
def mA (n:Nat) (a0:aE):Option (Int × aE):=
 (bQ n a0 ([91]:cJ)).bind λx1=>
 (kJ x1).bind λx3=>
 (bQ n x3.2 ([93]:cJ)).bind λx5=>
 some (x3.1,x5)
def kQ:List cJ:=[([112,117,98]:cJ),([117,51,50]:cJ),([117,54,52]:cJ)]
@[go_sem] def pV (n:Nat):Nat->Int->aE->aD->aD->Option ((aE × aD × aD) ⊕ (aD × aE))
 | 0,_,_,_,_=>none
 | c15+1,v10,v11,v12,v13=>
   if decide (v10<3) then
    (bM kQ v10).bind λx20=>
    (bW n v11 x20).bind λx29=>
    if x29.1=true then
     some (.inr (({ v13 with oL:=(u32.wrap (i64.wrap (1+v10))) }:aD),x29.2))
    else
     pV n c15 (i64.wrap (v10+1)) x29.2 v12 v13
   else
    some (.inl (v11,v12,v13))
def nD (n:Nat) (a0:aE):Option (aD × aE):=
 (eM a0 3).bind λx2=>
 (eA n x2.2).bind λx5=>
 (bQ n x5.2 ([58]:cJ)).bind λx7=>
 (pV n n 0 x7 (aD.mk 0 0 [] 0 []) ({ x2.1 with cZ:=x5.1 }:aD)).bind λy14=>
 y14.elim (λy14a=>
  (eM y14a.1 14).bind λx37=>
  (mA n x37.2).bind λx40=>
  some (({ y14a.2.2 with oL:=4,aP:=[({ x37.1 with oL:=x40.1 }:aD)] }:aD),x40.2)) (λy14a=>
  some y14a)
@[go_sem] def mE (n:Nat):Nat->(List aD)->aE->Option ((List aD) × aE)
 | 0,_,_=>none
 | c11+1,v8,v9=>
   if v9.e_ == 0 then
    (nD n v9).bind λx16=>
    gL (v8.length+[x16.1].length<=1073741824) <|
    (bW n x16.2 ([44]:cJ)).bind λx21=>
    if !x21.1 then
     some ((v8++[x16.1]),x21.2)
    else
     mE n c11 (v8++[x16.1]) x21.2
   else
    some (v8,v9)
def fH (n:Nat) (a0:aE):Option ((List aD) × aE):=
 (bQ n a0 ([40]:cJ)).bind λx1=>
 (bW n x1 ([41]:cJ)).bind λx3=>
 if x3.1=true then
  some ([],x3.2)
 else
  ((mE n n [] x3.2).bind λy10=>
    some (y10.1,y10.2)).bind λy6=>
  (bQ n y6.2 ([41]:cJ)).bind λx27=>
  some (y6.1,x27)
def mC (a0:aE) (a1:Int):Option aE:=
 if decide (64<a1) then
  (gO a0 111).bind λx2=>
  some x2
 else
  some a0
@[go_sem] def lO (n:Nat) (x1:(List cJ)) (a0:aE):Nat->Int->Option (Unit ⊕ cJ)
 | 0,_=>none
 | c15+1,v13=>
   if decide (v13<3) then
    (bM x1 v13).bind λx20=>
    (if decide (x20 ≠ ([]:cJ)) then
       (iV n a0 x20).bind λx31=>
       some x31
      else
       some false).bind λy29=>
    if y29 then
     some (.inr x20)
    else
     lO n x1 a0 c15 (i64.wrap (v13+1))
   else
    some (.inl ())
def mB (n:Nat) (a0:aE) (a1:Int):Option cJ:=
 (bM cW a1).bind λx1=>
 (lO n x1 a0 n 0).bind λy14=>
 y14.elim (λy14a=>
  some ([]:cJ)) (λy14a=>
  some y14a)
@[go_sem] def fG (eR:aE->Int->Option (aD × aE)) (n:Nat) (a1:Int):Nat->(List aD)->aE->Option ((List aD) × aE)
 | 0,_,_=>none
 | c11+1,v8,v9=>
   if v9.e_ == 0 then
    (eR v9 a1).bind λx16=>
    gL (v8.length+[x16.1].length<=1073741824) <|
    (bW n x16.2 ([44]:cJ)).bind λx21=>
    if !x21.1 then
     some ((v8++[x16.1]),x21.2)
    else
     fG eR n a1 c11 (v8++[x16.1]) x21.2
   else
    some (v8,v9)
def iA (eR:aE->Int->Option (aD × aE)) (n:Nat) (a0:aE) (a1:Int):Option ((List aD) × aE):=
 (bQ n a0 ([40]:cJ)).bind λx1=>
 (bW n x1 ([41]:cJ)).bind λx3=>
 if x3.1=true then
  some ([],x3.2)
 else
  ((fG eR n a1 n [] x3.2).bind λy10=>
    some (y10.1,y10.2)).bind λy6=>
  (bQ n y6.2 ([41]:cJ)).bind λx27=>
  some (y6.1,x27)
def oY (cT:aE->Int->Int->Option (aD × aE)) (n:Nat) (a0:aE) (a1:Int):Option (aD × aE):=
 (cT a0 0 a1).bind λx2=>
 some (x2.1,x2.2)
@[go_sem] def pX (cT:aE->Int->Int->Option (aD × aE)) (n:Nat) (a1:Int) (a2:Int):Nat->cJ->aE->aD->Option (aE × aD)
 | 0,_,_,_=>none
 | c15+1,v11,v12,v13=>
   if decide (v11 ≠ ([]:cJ)) then
    (eM v12 19).bind λx20=>
    (bQ n x20.2 v11).bind λx23=>
    (cT x23 (i64.wrap (a1+1)) a2).bind λx25=>
    if a1 == 3 then
     some (x25.2,({ x20.1 with cZ:=v11,aP:=[v13,x25.1] }:aD))
    else
     (mB n x25.2 a1).bind λx28=>
     pX cT n a1 a2 c15 x28 x25.2 ({ x20.1 with cZ:=v11,aP:=[v13,x25.1] }:aD)
   else
    some (v12,v13)
def oA (cR:aE->Int->Option (aD × aE)) (cT:aE->Int->Int->Option (aD × aE)) (n:Nat) (a0:aE) (a1:Int) (a2:Int):Option (aD × aE):=
 if a1 == 7 then
  (cR a0 a2).bind λx3=>
  some (x3.1,x3.2)
 else
  (cT a0 (i64.wrap (a1+1)) a2).bind λx5=>
  (mB n x5.2 a1).bind λx8=>
  (pX cT n a1 a2 n x8 x5.2 x5.1).bind λy14=>
  some (y14.2,y14.1)
def gV:List cJ:=[([126]:cJ),([45]:cJ)]
@[go_sem] def oR (cR:aE->Int->Option (aD × aE)) (n:Nat) (a1:Int):Nat->Int->aE->aD->aD->Option ((aE × aD × aD) ⊕ (aD × aE))
 | 0,_,_,_,_=>none
 | c23+1,v18,v19,v20,v21=>
   if decide (v18<2) then
    (bM gV v18).bind λx28=>
    (bW n v19 x28).bind λx37=>
    if x37.1=true then
     (cR x37.2 (i64.wrap (a1+1))).bind λx40=>
     some (.inr (({ v20 with bS:=18,cZ:=x28,aP:=[x40.1] }:aD),x40.2))
    else
     oR cR n a1 c23 (i64.wrap (v18+1)) x37.2 v20 v21
   else
    some (.inl (v19,v20,v21))
def mL (dP:aE->Int->Option (aD × aE)) (cR:aE->Int->Option (aD × aE)) (gE:aE->Int->Option ((List aD) × aE)) (n:Nat) (a0:aE) (a1:Int):Option (aD × aE):=
 (mC a0 a1).bind λx4=>
 (bW n x4 ([40]:cJ)).bind λx6=>
 if x6.1=true then
  (dP x6.2 (i64.wrap (a1+1))).bind λx9=>
  (bQ n x9.2 ([41]:cJ)).bind λx12=>
  some (x9.1,x12)
 else
  (eM x6.2 15).bind λx14=>
  (oR cR n a1 n 0 x14.2 x14.1 (aD.mk 0 0 [] 0 [])).bind λy22=>
  y22.elim (λy22a=>
   (if y22a.1.e_ == 0 then
      (dI y22a.1).bind λx72=>
      some (x72.bS == 2)
     else
      some false).bind λy70=>
   if y70 then
    (kJ y22a.1).bind λx78=>
    some (({ y22a.2.1 with bS:=14,oL:=x78.1 }:aD),x78.2)
   else
    (eA n y22a.1).bind λx80=>
    ((iV n x80.2 ([40]:cJ)).bind λx83=>
      if x83 then
       (gE x80.2 a1).bind λx86=>
       some (x86.2,({ y22a.2.1 with bS:=17,cZ:=x80.1,aP:=x86.1 }:aD))
      else
       (bW n x80.2 ([91]:cJ)).bind λx88=>
       if x88.1=true then
        (dP x88.2 (i64.wrap (a1+1))).bind λx91=>
        (bQ n x91.2 ([93]:cJ)).bind λx93=>
        some (x93,({ y22a.2.1 with bS:=16,cZ:=x80.1,aP:=[x91.1] }:aD))
       else
        some (x88.2,({ y22a.2.1 with cZ:=x80.1 }:aD))).bind λy82=>
    some (y82.2,y82.1)) (λy22a=>
   some y22a)
def lC (dP:aE->Int->Option (aD × aE)) (n:Nat) (a0:aE) (a1:Int):Option (aD × aE):=
 (dP a0 (i64.wrap (a1+1))).bind λx2=>
 some (x2.1,x2.2)
def bG:Nat->(aE->Int->Option ((List aD) × aE)) × (aE->Int->Option (aD × aE)) × (aE->Int->Int->Option (aD × aE)) × (aE->Int->Option (aD × aE)) × (aE->Int->Option (aD × aE))
 | 0=>(λ_ _=>none,λ_ _=>none,λ_ _ _=>none,λ_ _=>none,λ_ _=>none)
 | n+1=>(iA (bG n).2.2.2.2 n,oY (bG n).2.2.1 n,oA (bG n).2.2.2.1 (bG n).2.2.1 n,mL (bG n).2.1 (bG n).2.2.2.1 (bG n).1 n,lC (bG n).2.1 n)
def zH (n:Nat):aE->Int->Option ((List aD) × aE):=(bG n).1
def eN (n:Nat):aE->Int->Option (aD × aE):=(bG n).2.1
def Fw (n:Nat):aE->Int->Int->Option (aD × aE):=(bG n).2.2.1
def Et (n:Nat):aE->Int->Option (aD × aE):=(bG n).2.2.2.1
def CX (n:Nat):aE->Int->Option (aD × aE):=(bG n).2.2.2.2
def lD (n:Nat) (a0:aE) (a1:aD) (a2:Int):Option (aD × aE):=
 (eA n a0).bind λx3=>
 (bQ n x3.2 ([61]:cJ)).bind λx5=>
 (eN n x5 a2).bind λx7=>
 (bQ n x7.2 ([59]:cJ)).bind λx9=>
 some (({ a1 with cZ:=x3.1,aP:=[x7.1] }:aD),x9)
def nY (n:Nat) (a0:aE) (a1:Int):Option (aD × aE):=
 (eN n a0 (i64.wrap (a1+2))).bind λx2=>
 some (x2.1,x2.2)
@[go_sem] def fR (n:Nat) (a1:Int):Nat->(List aD)->aE->Option ((List aD) × aE)
 | 0,_,_=>none
 | c11+1,v8,v9=>
   if v9.e_ == 0 then
    (nY n v9 a1).bind λx16=>
    gL (v8.length+[x16.1].length<=1073741824) <|
    (bW n x16.2 ([44]:cJ)).bind λx21=>
    if !x21.1 then
     some ((v8++[x16.1]),x21.2)
    else
     fR n a1 c11 (v8++[x16.1]) x21.2
   else
    some (v8,v9)
def gY (n:Nat) (a0:aE) (a1:Int):Option ((List aD) × aE):=
 (bQ n a0 ([40]:cJ)).bind λx1=>
 (bW n x1 ([41]:cJ)).bind λx3=>
 if x3.1=true then
  some ([],x3.2)
 else
  ((fR n a1 n [] x3.2).bind λy10=>
    some (y10.1,y10.2)).bind λy6=>
  (bQ n y6.2 ([41]:cJ)).bind λx27=>
  some (y6.1,x27)
def nC (n:Nat) (a0:aE) (a1:aD) (a2:Int):Option (aD × aE):=
 (eA n a0).bind λx5=>
 ((iV n x5.2 ([40]:cJ)).bind λx8=>
   if x8 then
    (gY n x5.2 a2).bind λx11=>
    some (x11.2,({ a1 with bS:=10,cZ:=x5.1,aP:=x11.1 }:aD))
   else
    (bW n x5.2 ([91]:cJ)).bind λx13=>
    if x13.1=true then
     (eN n x13.2 (i64.wrap (a2+2))).bind λx16=>
     (bQ n x16.2 ([93]:cJ)).bind λx18=>
     (bQ n x18 ([61]:cJ)).bind λx20=>
     (eN n x20 (i64.wrap (a2+1))).bind λx22=>
     gL ([x16.1].length+[x22.1].length<=1073741824) <|
     some (x22.2,({ a1 with bS:=9,cZ:=x5.1,aP:=([x16.1]++[x22.1]) }:aD))
    else
     (bQ n x13.2 ([61]:cJ)).bind λx25=>
     (eN n x25 (i64.wrap (a2+1))).bind λx27=>
     some (x27.2,({ a1 with cZ:=x5.1,aP:=[x27.1] }:aD))).bind λy7=>
 (bQ n y7.1 ([59]:cJ)).bind λx32=>
 some (y7.2,x32)
@[go_sem] def nG (eQ:aE->Int->Option (aD × aE)) (n:Nat) (a1:Int):Nat->aE->aD->Option (aE × aD)
 | 0,_,_=>none
 | c13+1,v10,v11=>
   (if v10.e_ == 0 then
      (iV n v10 ([125]:cJ)).bind λx19=>
      some (!x19)
     else
      some false).bind λy17=>
   if y17 then
    (eQ v10 a1).bind λx25=>
    gL (v11.aP.length+[x25.1].length<=1073741824) <|
    nG eQ n a1 c13 x25.2 ({ v11 with aP:=(v11.aP++[x25.1]) }:aD)
   else
    some (v10,v11)
def oB (eQ:aE->Int->Option (aD × aE)) (n:Nat) (a0:aE) (a1:Int):Option (aD × aE):=
 (mC a0 a1).bind λx2=>
 (eM x2 4).bind λx4=>
 (bQ n x4.2 ([123]:cJ)).bind λx7=>
 (nG eQ n a1 n x7 x4.1).bind λy12=>
 (bQ n y12.1 ([125]:cJ)).bind λx32=>
 some (y12.2,x32)
def lB (lW:aE->aD->Int->Option (aD × aE)) (nB:aE->aD->Int->Option (aD × aE)) (n:Nat) (a0:aE) (a1:Int):Option (aD × aE):=
 (eM a0 8).bind λx2=>
 ((bW n x2.2 ([108,101,116]:cJ)).bind λx6=>
   if x6.1=true then
    (lD n x6.2 ({ x2.1 with bS:=5 }:aD) (i64.wrap (a1+1))).bind λx9=>
    some (.inr (x9.1,x9.2))
   else
    (bW n x6.2 ([118,97,114]:cJ)).bind λx11=>
    if x11.1=true then
     (lD n x11.2 ({ x2.1 with bS:=6 }:aD) (i64.wrap (a1+1))).bind λx14=>
     some (.inr (x14.1,x14.2))
    else
     (bW n x11.2 ([97,114,114]:cJ)).bind λx16=>
     if x16.1=true then
      (eA n x16.2).bind λx19=>
      (mA n x19.2).bind λx21=>
      some (.inl (x21.2,({ x2.1 with bS:=7,cZ:=x19.1,oL:=x21.1 }:aD)))
     else
      (bW n x16.2 ([114,101,116,117,114,110]:cJ)).bind λx23=>
      if x23.1=true then
       (eN n x23.2 (i64.wrap (a1+1))).bind λx26=>
       some (.inl (x26.2,({ x2.1 with bS:=13,aP:=[x26.1] }:aD)))
      else
       (bW n x23.2 ([105,102]:cJ)).bind λx28=>
       if x28.1=true then
        (lW x28.2 x2.1 a1).bind λx31=>
        some (.inr (x31.1,x31.2))
       else
        (bW n x28.2 ([102,111,114]:cJ)).bind λx33=>
        if x33.1=true then
         (nB x33.2 x2.1 a1).bind λx36=>
         some (.inr (x36.1,x36.2))
        else
         (nC n x33.2 x2.1 a1).bind λx38=>
         some (.inr (x38.1,x38.2)):Option ((aE × aD) ⊕ (aD × aE))).bind λy5=>
 y5.elim (λy5a=>
  (bQ n y5a.1 ([59]:cJ)).bind λx43=>
  some (y5a.2,x43)) (λy5a=>
  some y5a)
def nE (dK:aE->Int->Option (aD × aE)) (n:Nat) (a0:aE) (a1:aD) (a2:Int):Option (aD × aE):=
 (eN n a0 (i64.wrap (a2+1))).bind λx3=>
 (dK x3.2 (i64.wrap (a2+1))).bind λx5=>
 gL ([x3.1].length+[x5.1].length<=1073741824) <|
 (bW n x5.2 ([101,108,115,101]:cJ)).bind λx8=>
 if x8.1=true then
  (dK x8.2 (i64.wrap (a2+1))).bind λx11=>
  gL (([x3.1]++[x5.1]).length+[x11.1].length<=1073741824) <|
  some (({ a1 with bS:=11,aP:=(([x3.1]++[x5.1])++[x11.1]) }:aD),x11.2)
 else
  some (({ a1 with bS:=11,aP:=([x3.1]++[x5.1]) }:aD),x8.2)
def oX (dK:aE->Int->Option (aD × aE)) (n:Nat) (a0:aE) (a1:aD) (a2:Int):Option (aD × aE):=
 (eA n a0).bind λx3=>
 (bQ n x3.2 ([105,110]:cJ)).bind λx5=>
 (eN n x5 (i64.wrap (a2+1))).bind λx7=>
 (bQ n x7.2 ([46,46]:cJ)).bind λx9=>
 (eN n x9 (i64.wrap (a2+1))).bind λx11=>
 gL ([x7.1].length+[x11.1].length<=1073741824) <|
 (dK x11.2 (i64.wrap (a2+1))).bind λx14=>
 gL (([x7.1]++[x11.1]).length+[x14.1].length<=1073741824) <|
 some (({ a1 with bS:=12,cZ:=x3.1,aP:=(([x7.1]++[x11.1])++[x14.1]) }:aD),x14.2)
def dE:Nat->(aE->Int->Option (aD × aE)) × (aE->Int->Option (aD × aE)) × (aE->aD->Int->Option (aD × aE)) × (aE->aD->Int->Option (aD × aE))
 | 0=>(λ_ _=>none,λ_ _=>none,λ_ _ _=>none,λ_ _ _=>none)
 | n+1=>(oB (dE n).2.1 n,lB (dE n).2.2.1 (dE n).2.2.2 n,nE (dE n).1 n,oX (dE n).1 n)
def eD (n:Nat):aE->Int->Option (aD × aE):=(dE n).1
def CV (n:Nat):aE->Int->Option (aD × aE):=(dE n).2.1
def EZ (n:Nat):aE->aD->Int->Option (aD × aE):=(dE n).2.2.1
def Gj (n:Nat):aE->aD->Int->Option (aD × aE):=(dE n).2.2.2
def kR (n:Nat) (a0:aE):Option (aD × aE):=
 (eM a0 2).bind λx2=>
 (bW n x2.2 ([101,120,112,111,114,116]:cJ)).bind λx5=>
 if x5.1=true then
  (bQ n x5.2 ([102,110]:cJ)).bind λx8=>
  (eA n x8).bind λx10=>
  (fH n x10.2).bind λx12=>
  (bW n x12.2 ([45,62]:cJ)).bind λx14=>
  if x14.1=true then
   (bW n x14.2 ([117,51,50]:cJ)).bind λx17=>
   if x17.1=true then
    (eD n x17.2 1).bind λx20=>
    gL (x12.1.length+[x20.1].length<=1073741824) <|
    some (({ x2.1 with cZ:=x10.1,oL:=(orK .u32 1 2),aP:=(x12.1++[x20.1]) }:aD),x20.2)
   else
    (bQ n x17.2 ([117,54,52]:cJ)).bind λx25=>
    (eD n x25 1).bind λx27=>
    gL (x12.1.length+[x27.1].length<=1073741824) <|
    some (({ x2.1 with cZ:=x10.1,oL:=(orK .u32 1 4),aP:=(x12.1++[x27.1]) }:aD),x27.2)
  else
   (eD n x14.2 1).bind λx32=>
   gL (x12.1.length+[x32.1].length<=1073741824) <|
   some (({ x2.1 with cZ:=x10.1,oL:=1,aP:=(x12.1++[x32.1]) }:aD),x32.2)
 else
  (bQ n x5.2 ([102,110]:cJ)).bind λx37=>
  (eA n x37).bind λx39=>
  (fH n x39.2).bind λx41=>
  (bW n x41.2 ([45,62]:cJ)).bind λx43=>
  if x43.1=true then
   (bW n x43.2 ([117,51,50]:cJ)).bind λx46=>
   if x46.1=true then
    (eD n x46.2 1).bind λx49=>
    gL (x41.1.length+[x49.1].length<=1073741824) <|
    some (({ x2.1 with cZ:=x39.1,oL:=(orK .u32 x2.1.oL 2),aP:=(x41.1++[x49.1]) }:aD),x49.2)
   else
    (bQ n x46.2 ([117,54,52]:cJ)).bind λx54=>
    (eD n x54 1).bind λx56=>
    gL (x41.1.length+[x56.1].length<=1073741824) <|
    some (({ x2.1 with cZ:=x39.1,oL:=(orK .u32 x2.1.oL 4),aP:=(x41.1++[x56.1]) }:aD),x56.2)
  else
   (eD n x43.2 1).bind λx61=>
   gL (x41.1.length+[x61.1].length<=1073741824) <|
   some (({ x2.1 with cZ:=x39.1,aP:=(x41.1++[x61.1]) }:aD),x61.2)
@[go_sem] def uM (n:Nat):Nat->aE->aD->Option (aE × aD)
 | 0,_,_=>none
 | c13+1,v10,v11=>
   (if v10.e_ == 0 then
      (dI v10).bind λx19=>
      some (x19.bS != 4)
     else
      some false).bind λy17=>
   if y17 then
    (kR n v10).bind λx25=>
    gL (v11.aP.length+[x25.1].length<=1073741824) <|
    uM n c13 x25.2 ({ v11 with aP:=(v11.aP++[x25.1]) }:aD)
   else
    some (v10,v11)
def Af (n:Nat) (a0:cJ):Option (aD × Int × Int):=
 (zK n a0).bind λx2=>
 if x2.2.1 != 0 then
  some ((aD.mk 0 0 [] 0 []),x2.2.1,x2.2.2)
 else
  (eM (aE.mk x2.1 0 0 0 0) 1).bind λx6=>
  (uM n n x6.2 x6.1).bind λy12=>
  if y12.1.e_ != 0 then
   some ((aD.mk 0 0 [] 0 []),y12.1.e_,y12.1.CK)
  else
   some (y12.2,0,0)
def pR (a0:aG) (a1:aH) (a2:Int) (a3:Int):Option aH:=
 if a1.e_ == 0 then
  some (aH.mk a2 a3)
 else
  some a1
def bB (a0:aG) (a1:aH) (a2:Bool) (a3:Int) (a4:Int):Option aH:=
 if !a2 then
  (pR a0 a1 a3 a4).bind λx2=>
  some x2
 else
  some a1
def Au (a0:aR) (a1:cJ):Option Bool:=
 some (decide (a0.fN=a1))
@[go_sem] def cK (a0:(List aR)) (a1:cJ):Nat->Int->Option (Unit ⊕ Int)
 | 0,_=>none
 | c4+1,v2=>
   if decide (v2<(a0.length:Int)) then
    (bM a0 v2).bind λx9=>
    (Au x9 a1).bind λx10=>
    if x10 then
     some (.inr v2)
    else
     cK a0 a1 c4 (i64.wrap (v2+1))
   else
    some (.inl ())
def eV (n:Nat) (a0:(List aR)) (a1:cJ):Option Int:=
 (cK a0 a1 n 0).bind λy3=>
 y3.elim (λy3a=>
  some (-1:Int)) (λy3a=>
  some y3a)
def pG (n:Nat) (a0:bL) (a1:cJ):Option (Int × Bool):=
 (eV n a0.bF a1).bind λx3=>
 some ((max x3 0),(decide (0<=x3)))
@[go_sem] def vP (a0:cJ):Nat->Int->Option (Unit ⊕ Int)
 | 0,_=>none
 | c4+1,v2=>
   if decide (v2<5) then
    (bM cM v2).bind λx9=>
    if decide (x9.Qf=a0) then
     some (.inr x9.Qw)
    else
     vP a0 c4 (i64.wrap (v2+1))
   else
    some (.inl ())
def uQ (n:Nat) (a0:cJ):Option Int:=
 (vP a0 n 0).bind λy3=>
 y3.elim (λy3a=>
  some 0) (λy3a=>
  some y3a)
def yF (a0:Int):Option Int:=
 if (wD .u32 a0 2) != 0 then
  some 2
 else
  if (wD .u32 a0 4) != 0 then
   some 3
  else
   some 0
@[go_sem] def kF (n:Nat) (a2:aD):Nat->Int->aG->aH->Option (aG × aH)
 | 0,_,_,_=>none
 | c9+1,v5,v6,v7=>
   if decide (v5<(a2.aP.length:Int)) then
    (bM a2.aP v5).bind λx14=>
    (pG n v6.p_ x14.cZ).bind λx20=>
    (if !x20.2 then
       (uQ n x14.cZ).bind λx25=>
       (bB v6 v7 (x25 == 0) 131 x14.fB).bind λx26=>
       some x26
      else
       (bB v6 v7 false 131 x14.fB).bind λx29=>
       some x29).bind λy23=>
    (yF x14.oL).bind λx34=>
    gL (v6.f_<0) <|
    gL (v6.p_.bF.length+1<=1073741824) <|
    kF n a2 c9 (i64.wrap (v5+1)) ({ v6 with p_:=⟨(v6.p_.bF++[(aR.mk x14.cZ ((wD .u32 x14.oL 1) != 0) x34 0 [] [])])⟩ }:aG) y23
   else
    some (v6,v7)
def oZ (n:Nat) (a0:aG) (a1:aH) (a2:aD):Option (aG × aH):=
 (bB a0 a1 (decide ((a2.aP.length:Int)<=64)) 136 a2.fB).bind λx2=>
 (kF n a2 n 0 a0 x2).bind λy8=>
 gL (0<=(a2.aP.length:Int)/\(a2.aP.length:Int)<=1073741824) <|
 some (({ y8.1 with cD:=(List.replicate a2.aP.length []) }:aG),y8.2)
@[go_sem] def kH (a0:aR):Nat->Int->Int->Option Int
 | 0,_,_=>none
 | c8+1,v5,v6=>
   if decide (v6<((a0.aW.take a0.bC.toNat).length:Int)) then
    ((bM (a0.aW.take a0.bC.toNat) v6).bind λx14=>
      if x14.bS == 3 then
       some (i64.wrap ((i64.wrap (v5+(i64.wrap ((v5.tmod 2)+1))))+1))
      else
       some (i64.wrap (v5+1))).bind λy13=>
    kH a0 c8 y13 (i64.wrap (v6+1))
   else
    some v5
def gZ (n:Nat) (a0:aR):Option Int:=
 gL (0<=a0.bC/\a0.bC<=(a0.aW.length:Int)) <|
 (kH a0 n 0 0).bind λy7=>
 some y7
@[go_sem] def iG (x1:aR):Nat->Int->aG->Option aG
 | 0,_,_=>none
 | c31+1,v28,v29=>
   if decide (v28<x1.bC) then
    gL (v29.bI.length+1<=1073741824) <|
    iG x1 c31 (i64.wrap (v28+1)) ({ v29 with bI:=(v29.bI++[v28]) }:aG)
   else
    some v29
def mI (n:Nat) (a0:aG) (a1:aH) (a2:Int):Option (aG × aH):=
 (bM a0.p_.bF a2).bind λx1=>
 (iG x1 n 0 ({ a0 with f_:=a2,bI:=[],fK:=a2 }:aG)).bind λy30=>
 some (y30,a1)
def wV (a0:Int):Option Bool:=
 (if decide (1<=a0) then
    if decide (a0<=255) then
     some true
    else
     if decide (255<a0) then
      if decide (a0<=1024) then
       some ((a0.tmod 4) == 0)
      else
       some false
     else
      some false
   else
    if decide (255<a0) then
     if decide (a0<=1024) then
      some ((a0.tmod 4) == 0)
     else
      some false
    else
     some false).bind λy1=>
 some y1
@[go_sem] def kT (a0:aG) (a2:cJ):Nat->Int->Option (Unit ⊕ Int)
 | 0,_=>none
 | c5+1,v3=>
   if decide (0<=v3) then
    (bM a0.p_.bF a0.f_).bind λx10=>
    (bM a0.bI v3).bind λx13=>
    (bM x10.aW x13).bind λx14=>
    if decide (x14.fN=a2) then
     some (.inr x13)
    else
     kT a0 a2 c5 (i64.wrap (v3 - 1))
   else
    some (.inl ())
def lJ (n:Nat) (a0:aG) (a1:aH) (a2:cJ):Option Int:=
 (kT a0 a2 n (i64.wrap ((a0.bI.length:Int) - 1))).bind λy4=>
 y4.elim (λy4a=>
  some (-1:Int)) (λy4a=>
  some y4a)
def eE (n:Nat) (a0:aG) (a1:aH) (a2:aL) (a3:Int):Option (Int × aG × aH):=
 (lJ n a0 a1 a2.fN).bind λx2=>
 (bB a0 a1 (decide (x2<0)) 131 a3).bind λx3=>
 (bM a0.p_.bF a0.f_).bind λx6=>
 (bB a0 x3 (decide ((x6.aW.length:Int)<250)) 136 a3).bind λx9=>
 if x9.e_ != 0 then
  some ((-1:Int),a0,x9)
 else
  gL (x6.aW.length+1<=1073741824) <|
  gL (a0.bI.length+1<=1073741824) <|
  some ((x6.aW.length:Int),({ a0 with p_:=⟨(a0.p_.bF.set a0.f_.toNat { x6 with aW:=(x6.aW++[a2]) })⟩,bI:=(a0.bI++[(x6.aW.length:Int)]) }:aG),x9)
@[go_sem] def jH (n:Nat) (a2:(List aD)):Nat->Int->aG->aH->Option (aG × aH)
 | 0,_,_,_=>none
 | c6+1,v2,v3,v4=>
   if decide (v2<(a2.length:Int)) then
    ((bM a2 v2).bind λx12=>
      (if (i64.wrap x12.oL) == 4 then
         some (decide (0<(x12.aP.length:Int)))
        else
         some false).bind λy19=>
      if y19 then
       (bM x12.aP 0).bind λx25=>
       (wV (i64.wrap x25.oL)).bind λx31=>
       (bB v3 v4 x31 136 x12.fB).bind λx32=>
       (eE n v3 x32 (aL.mk x12.cZ (i64.wrap x12.oL) (i64.wrap x25.oL)) x12.fB).bind λx35=>
       some (x35.2.1,x35.2.2)
      else
       (eE n v3 v4 (aL.mk x12.cZ (i64.wrap x12.oL) 0) x12.fB).bind λx37=>
       some (x37.2.1,x37.2.2)).bind λy11=>
    jH n a2 c6 (i64.wrap (v2+1)) y11.1 y11.2
   else
    some (v3,v4)
def qO (n:Nat) (a0:aG) (a1:aH) (a2:(List aD)):Option (aG × aH):=
 (jH n a2 n 0 a0 a1).bind λy5=>
 (bM y5.1.p_.bF y5.1.f_).bind λx61=>
 some (({ y5.1 with p_:=⟨(y5.1.p_.bF.set y5.1.f_.toNat { x61 with bC:=(x61.aW.length:Int) })⟩ }:aG),y5.2)
def lI (n:Nat) (a0:aG) (a1:aH) (a2:Int) (a3:aD):Option (aG × aH):=
 (mI n a0 a1 a2).bind λx2=>
 gL (0<=(max (i64.wrap ((a3.aP.length:Int) - 1)) 0)/\(max (i64.wrap ((a3.aP.length:Int) - 1)) 0)<=(a3.aP.length:Int)) <|
 (qO n x2.1 x2.2 (a3.aP.take (max (i64.wrap ((a3.aP.length:Int) - 1)) 0).toNat)).bind λx4=>
 if x4.2.e_ == 0 then
  ((bM x4.1.p_.bF x4.1.f_).bind λx10=>
    if !x10.dC then
     (bB x4.1 x4.2 true 136 a3.fB).bind λx27=>
     some x27
    else
     (gZ n x10).bind λx29=>
     (bB x4.1 x4.2 (decide (x29<=4)) 136 a3.fB).bind λx30=>
     some x30).bind λy9=>
  some (x4.1,y9)
 else
  some (x4.1,x4.2)
def eS (a0:aG) (a1:aH) (a2:Int):Option Int:=
 if decide (a2<0) then
  some 0
 else
  (bM a0.p_.bF a0.f_).bind λx2=>
  (bM x2.aW a2).bind λx5=>
  some x5.bS
def fZ (n:Nat) (a0:aG) (a1:aH) (a2:aD):Option (Int × aH):=
 (lJ n a0 a1 a2.cZ).bind λx2=>
 (bB a0 a1 (decide (0<=x2)) 130 a2.fB).bind λx4=>
 some (x2,x4)
def tL (a0:Int) (a1:Int):Option Int:=
 (if a0 == a1 then
    if decide (1<=a0) then
     some (decide (a0<=3))
    else
     some false
   else
    some false).bind λy1=>
 if y1 then
  some a0
 else
  (if a0 == 1 then
     if a1 == 2 then
      some true
     else
      if a0 == 2 then
       some (a1 == 1)
      else
       some false
    else
     if a0 == 2 then
      some (a1 == 1)
     else
      some false).bind λy8=>
  if y8 then
   some 2
  else
   some 0
def cG (a0:aG) (a1:aH) (a2:aF) (a3:Int):Option (aF × aH):=
 (bB a0 a1 (a3 != 0) 132 a2.fB).bind λx3=>
 some (({ a2 with cL:=a3 }:aF),x3)
def gK (a0:aG) (a1:aH) (a2:aF) (a3:aF) (a4:aF):Option (aF × aH):=
 (bB a0 a1 (a4.cL == 1) 133 a4.fB).bind λx5=>
 if a3.cL == 3 then
  (if decide (a4.iD=([110,117,109]:cJ)) then
     (bB a0 x5 (decide (a4.N_<=63)) 132 a2.fB).bind λx10=>
     some x10
    else
     (bB a0 x5 false 132 a2.fB).bind λx12=>
     some x12).bind λy8=>
  (cG a0 y8 a2 a3.cL).bind λx17=>
  some (x17.1,x17.2)
 else
  (cG a0 x5 a2 a3.cL).bind λx19=>
  some (x19.1,x19.2)
def tJ (a0:Int):Option Int:=
 if a0 == 1 then
  some 2
 else
  some a0
def qT (a0:Int):Option Bool:=
 (if a0 == 1 then
    some true
   else
    some (a0 == 2)).bind λy1=>
 some y1
def lQ (a0:aG) (a1:aH) (a2:aF):Option Int:=
 (bM a2.aP 1).bind λx2=>
 (bM a2.aP 2).bind λx3=>
 (tL x2.cL x3.cL).bind λx4=>
 ((bM a2.aP 0).bind λx17=>
   (qT x17.cL).bind λx18=>
   if !x18 then
    some true
   else
    some (x4 == 0)).bind λy16=>
 if y16 then
  some 0
 else
  (tJ x4).bind λx30=>
  some x30
def oH (mK:aG->aH->aD->aF->Option (aF × aH)) (lX:aG->aH->aD->aF->Option (aF × aH)) (lA:aG->aH->aD->aF->Option (aF × aH)) (kM:aG->aH->aD->aF->Option (aF × aH)) (n:Nat) (a0:aG) (a1:aH) (a2:aD):Option (aF × aH):=
 if a2.bS == 14 then
  some ((aF.mk ([110,117,109]:cJ) 1 a2.oL (-1:Int) [] a2.fB),a1)
 else
  if a2.bS == 15 then
   (fZ n a0 a1 a2).bind λx6=>
   (eS a0 x6.2 x6.1).bind λx8=>
   (bB a0 x6.2 (x8 != 4) 132 a2.fB).bind λx10=>
   some ((aF.mk ([118,97,114]:cJ) x8 0 x6.1 [] a2.fB),x10)
  else
   if a2.bS == 16 then
    (mK a0 a1 a2 (aF.mk [] 0 0 (-1:Int) [] a2.fB)).bind λx13=>
    some (x13.1,x13.2)
   else
    if a2.bS == 18 then
     (lX a0 a1 a2 (aF.mk [] 0 0 (-1:Int) [] a2.fB)).bind λx16=>
     some (x16.1,x16.2)
    else
     if a2.bS == 19 then
      (lA a0 a1 a2 (aF.mk [] 0 0 (-1:Int) [] a2.fB)).bind λx19=>
      some (x19.1,x19.2)
     else
      (kM a0 a1 a2 (aF.mk [] 0 0 (-1:Int) [] a2.fB)).bind λx21=>
      some (x21.1,x21.2)
def oG (dD:aG->aH->aD->Option (aF × aH)) (n:Nat) (a0:aG) (a1:aH) (a2:aD) (a3:aF):Option (aF × aH):=
 (bM a2.aP 0).bind λx4=>
 (dD a0 a1 x4).bind λx5=>
 (fZ n a0 x5.2 a2).bind λx13=>
 (eS a0 x13.2 x13.1).bind λx15=>
 (bB a0 x13.2 (x15 == 4) 132 a2.fB).bind λx16=>
 (bB a0 x16 (x5.1.cL == 1) 133 x5.1.fB).bind λx19=>
 (if x19.e_ == 0 then
    some (decide (x5.1.iD=([110,117,109]:cJ)))
   else
    some false).bind λy21=>
 if y21 then
  (bM a0.p_.bF a0.f_).bind λx27=>
  (bM x27.aW x13.1).bind λx30=>
  (bB a0 x19 (decide ((i64.wrap x5.1.N_)<x30.pI)) 137 x5.1.fB).bind λx31=>
  some (({ a3 with iD:=([105,110,100,101,120]:cJ),cL:=2,gB:=x13.1,aP:=[x5.1] }:aF),x31)
 else
  some (({ a3 with iD:=([105,110,100,101,120]:cJ),cL:=2,gB:=x13.1,aP:=[x5.1] }:aF),x19)
def nI (cN:aG->aH->(List aD)->Option ((List aF) × aH)) (n:Nat) (a0:aG) (a1:aH) (a2:aD) (a3:aF):Option (aF × aH):=
 (cN a0 a1 a2.aP).bind λx4=>
 if decide (a2.cZ=([45]:cJ)) then
  (bM x4.1 0).bind λx7=>
  some (({ a3 with iD:=([110,101,103]:cJ),cL:=x7.cL,aP:=x4.1 }:aF),x4.2)
 else
  (bM x4.1 0).bind λx13=>
  some (({ a3 with iD:=([110,111,116]:cJ),cL:=x13.cL,aP:=x4.1 }:aF),x4.2)
def mP (cN:aG->aH->(List aD)->Option ((List aF) × aH)) (n:Nat) (a0:aG) (a1:aH) (a2:aD) (a3:aF):Option (aF × aH):=
 (cN a0 a1 a2.aP).bind λx4=>
 (bM x4.1 0).bind λx6=>
 (bM x4.1 1).bind λx9=>
 (tL x6.cL x9.cL).bind λx20=>
 if decide (a2.cZ=([47]:cJ)) then
  (bB a0 x4.2 (x6.cL == 1) 133 x6.fB).bind λx23=>
  (bB a0 x23 (x9.cL == 1) 133 x9.fB).bind λx25=>
  (cG a0 x25 ({ a3 with iD:=a2.cZ,aP:=x4.1 }:aF) 1).bind λx27=>
  some (x27.1,x27.2)
 else
  if decide (a2.cZ=([37]:cJ)) then
   (bB a0 x4.2 (x6.cL == 1) 133 x6.fB).bind λx30=>
   (bB a0 x30 (x9.cL == 1) 133 x9.fB).bind λx32=>
   (cG a0 x32 ({ a3 with iD:=a2.cZ,aP:=x4.1 }:aF) 1).bind λx34=>
   some (x34.1,x34.2)
  else
   if decide (a2.cZ=([60,60]:cJ)) then
    (gK a0 x4.2 ({ a3 with iD:=a2.cZ,aP:=x4.1 }:aF) x6 x9).bind λx37=>
    some (x37.1,x37.2)
   else
    if decide (a2.cZ=([62,62]:cJ)) then
     (gK a0 x4.2 ({ a3 with iD:=a2.cZ,aP:=x4.1 }:aF) x6 x9).bind λx40=>
     some (x40.1,x40.2)
    else
     if decide (a2.cZ=([60,60,60]:cJ)) then
      (gK a0 x4.2 ({ a3 with iD:=a2.cZ,aP:=x4.1 }:aF) x6 x9).bind λx43=>
      some (x43.1,x43.2)
     else
      if decide (a2.cZ=([42]:cJ)) then
       (bB a0 x4.2 (x20 != 3) 132 a2.fB).bind λx46=>
       (cG a0 x46 ({ a3 with iD:=a2.cZ,aP:=x4.1 }:aF) x20).bind λx48=>
       some (x48.1,x48.2)
      else
       if decide (a2.cZ=([61,61]:cJ)) then
        if x20 == 3 then
         (cG a0 x4.2 ({ a3 with iD:=a2.cZ,aP:=x4.1 }:aF) 2).bind λx52=>
         some (x52.1,x52.2)
        else
         (cG a0 x4.2 ({ a3 with iD:=a2.cZ,aP:=x4.1 }:aF) x20).bind λx54=>
         some (x54.1,x54.2)
       else
        if decide (a2.cZ=([60]:cJ)) then
         if x20 == 3 then
          (cG a0 x4.2 ({ a3 with iD:=a2.cZ,aP:=x4.1 }:aF) 2).bind λx58=>
          some (x58.1,x58.2)
         else
          (cG a0 x4.2 ({ a3 with iD:=a2.cZ,aP:=x4.1 }:aF) x20).bind λx60=>
          some (x60.1,x60.2)
        else
         (cG a0 x4.2 ({ a3 with iD:=a2.cZ,aP:=x4.1 }:aF) x20).bind λx62=>
         some (x62.1,x62.2)
def lY (cN:aG->aH->(List aD)->Option ((List aF) × aH)) (n:Nat) (a0:aG) (a1:aH) (a2:aD) (a3:aF):Option (aF × aH):=
 (uQ n a2.cZ).bind λx4=>
 (bB a0 a1 (decide (0<x4)) 130 a2.fB).bind λx6=>
 (bB a0 x6 ((a2.aP.length:Int) == x4) 136 a2.fB).bind λx8=>
 (cN a0 x8 a2.aP).bind λx10=>
 if x10.2.e_ != 0 then
  some (({ a3 with iD:=a2.cZ,aP:=x10.1 }:aF),x10.2)
 else
  (bM x10.1 0).bind λx13=>
  if decide (a2.cZ=([115,101,108,101,99,116]:cJ)) then
   (lQ a0 x10.2 ({ a3 with iD:=a2.cZ,aP:=x10.1 }:aF)).bind λx20=>
   (cG a0 x10.2 ({ a3 with iD:=a2.cZ,aP:=x10.1 }:aF) x20).bind λx21=>
   some (x21.1,x21.2)
  else
   if decide (a2.cZ=([108,111,110,103]:cJ)) then
    (qT x13.cL).bind λx25=>
    (bB a0 x10.2 x25 132 a2.fB).bind λx26=>
    (cG a0 x26 ({ a3 with iD:=a2.cZ,aP:=x10.1 }:aF) 3).bind λx29=>
    some (x29.1,x29.2)
   else
    if decide (a2.cZ=([119,105,100,101]:cJ)) then
     ((qT x13.cL).bind λx33=>
       if x33 then
        (bM x10.1 1).bind λx36=>
        (qT x36.cL).bind λx37=>
        (bB a0 x10.2 x37 132 a2.fB).bind λx38=>
        some x38
       else
        (bB a0 x10.2 false 132 a2.fB).bind λx46=>
        some x46).bind λy32=>
     (cG a0 y32 ({ a3 with iD:=a2.cZ,aP:=x10.1 }:aF) 3).bind λx51=>
     some (x51.1,x51.2)
    else
     (bB a0 x10.2 (x13.cL == 3) 132 a2.fB).bind λx53=>
     (cG a0 x53 ({ a3 with iD:=a2.cZ,aP:=x10.1 }:aF) 2).bind λx55=>
     some (x55.1,x55.2)
@[go_sem] def qQ (dD:aG->aH->aD->Option (aF × aH)) (a2:(List aD)) (a0:aG):Nat->(List aF)->Int->aH->Option ((List aF) × aH)
 | 0,_,_,_=>none
 | c6+1,v2,v3,v4=>
   if decide (v3<(a2.length:Int)) then
    (bM a2 v3).bind λx11=>
    (dD a0 v4 x11).bind λx17=>
    gL (v2.length+[x17.1].length<=1073741824) <|
    qQ dD a2 a0 c6 (v2++[x17.1]) (i64.wrap (v3+1)) x17.2
   else
    some (v2,v4)
def pC (dD:aG->aH->aD->Option (aF × aH)) (n:Nat) (a0:aG) (a1:aH) (a2:(List aD)):Option ((List aF) × aH):=
 (qQ dD a2 a0 n [] 0 a1).bind λy5=>
 some (y5.1,y5.2)
def cC:Nat->(aG->aH->aD->Option (aF × aH)) × (aG->aH->aD->aF->Option (aF × aH)) × (aG->aH->aD->aF->Option (aF × aH)) × (aG->aH->aD->aF->Option (aF × aH)) × (aG->aH->aD->aF->Option (aF × aH)) × (aG->aH->(List aD)->Option ((List aF) × aH))
 | 0=>(λ_ _ _=>none,λ_ _ _ _=>none,λ_ _ _ _=>none,λ_ _ _ _=>none,λ_ _ _ _=>none,λ_ _ _=>none)
 | n+1=>(oH (cC n).2.1 (cC n).2.2.1 (cC n).2.2.2.1 (cC n).2.2.2.2.1 n,oG (cC n).1 n,nI (cC n).2.2.2.2.2 n,mP (cC n).2.2.2.2.2 n,lY (cC n).2.2.2.2.2 n,pC (cC n).1 n)
def gA (n:Nat):aG->aH->aD->Option (aF × aH):=(cC n).1
def Fz (n:Nat):aG->aH->aD->aF->Option (aF × aH):=(cC n).2.1
def Fc (n:Nat):aG->aH->aD->aF->Option (aF × aH):=(cC n).2.2.1
def EG (n:Nat):aG->aH->aD->aF->Option (aF × aH):=(cC n).2.2.2.1
def DO (n:Nat):aG->aH->aD->aF->Option (aF × aH):=(cC n).2.2.2.2.1
def Gk (n:Nat):aG->aH->(List aD)->Option ((List aF) × aH):=(cC n).2.2.2.2.2
def eK (n:Nat) (a0:aG) (a1:aH) (a2:aD):Option (aF × aH):=
 (gA n a0 a1 a2).bind λx3=>
 (bB a0 x3.2 (x3.1.cL == 1) 133 a2.fB).bind λx6=>
 some (x3.1,x6)
def mO (n:Nat) (a0:aG) (a1:aH) (a2:aD):Option (Int × aH):=
 (pG n a0.p_ a2.cZ).bind λx2=>
 (bB a0 a1 x2.2 130 a2.fB).bind λx5=>
 some (x2.1,x5)
def oE (a0:aG) (a1:aH) (a2:Int):Option (List aL):=
 (bM a0.p_.bF a2).bind λx1=>
 gL (0<=x1.bC/\x1.bC<=(x1.aW.length:Int)) <|
 some (x1.aW.take (x1.bC.toNat))
def tM (a0:Int) (a1:Int):Option Bool:=
 (if a0 == a1 then
    some true
   else
    if a0 == 1 then
     some (a1 == 2)
    else
     some false).bind λy1=>
 some y1
def mJ (n:Nat) (a0:aG) (a1:aH) (a2:aD) (a3:Int):Option (aF × aH):=
 (bB a0 a1 (a2.bS == 15) 132 a2.fB).bind λx3=>
 (fZ n a0 x3 a2).bind λx5=>
 ((eS a0 x5.2 x5.1).bind λx8=>
   if x8 == 4 then
    (bM a0.p_.bF a0.f_).bind λx11=>
    (bM x11.aW (max x5.1 0)).bind λx14=>
    (bB a0 x5.2 (x14.pI == a3) 132 a2.fB).bind λx15=>
    some x15
   else
    (bB a0 x5.2 false 132 a2.fB).bind λx40=>
    some x40).bind λy7=>
 some ((aF.mk ([118,97,114]:cJ) 4 0 x5.1 [] a2.fB),y7)
def mQ (n:Nat) (a0:aG) (a1:aH) (a2:aD) (a3:aL):Option (aF × aH):=
 if a3.bS == 4 then
  (mJ n a0 a1 a2 a3.pI).bind λx5=>
  some (x5.1,x5.2)
 else
  if a3.bS == 1 then
   (eK n a0 a1 a2).bind λx8=>
   some (x8.1,x8.2)
  else
   (gA n a0 a1 a2).bind λx10=>
   (tM x10.1.cL a3.bS).bind λx13=>
   (bB a0 x10.2 x13 132 a2.fB).bind λx14=>
   some (x10.1,x14)
@[go_sem] def kU (n:Nat) (a2:aD) (x20:(List aL)) (a0:aG) (x7:(List Int)) (x4:(Int × aH)):Nat->Int->aH->aC->Option (aH × aC)
 | 0,_,_,_=>none
 | c29+1,v25,v26,v27=>
   if decide (v25<(a2.aP.length:Int)) then
    (bM a2.aP v25).bind λx34=>
    if v26.e_ != 0 then
     some (v26,v27)
    else
     (bM x20 v25).bind λx41=>
     (mQ n ({ a0 with cD:=(a0.cD.set a0.fK.toNat (x7++[x4.1])) }:aG) v26 x34 x41).bind λx42=>
     gL (v27.aP.length+[x42.1].length<=1073741824) <|
     kU n a2 x20 a0 x7 x4 c29 (i64.wrap (v25+1)) x42.2 ({ v27 with aP:=(v27.aP++[x42.1]) }:aC)
   else
    some (v26,v27)
def jA (n:Nat) (a0:aG) (a1:aH) (a2:aD) (a3:aC) (a4:Int):Option (aC × aG × aH):=
 (mO n a0 a1 a2).bind λx4=>
 if x4.2.e_ != 0 then
  some (({ a3 with iD:=([99,97,108,108]:cJ),gB:=a4,iE:=x4.1,aP:=[] }:aC),a0,x4.2)
 else
  (bM a0.cD a0.fK).bind λx7=>
  gL (x7.length+1<=1073741824) <|
  (oE ({ a0 with cD:=(a0.cD.set a0.fK.toNat (x7++[x4.1])) }:aG) x4.2 x4.1).bind λx20=>
  (bB ({ a0 with cD:=(a0.cD.set a0.fK.toNat (x7++[x4.1])) }:aG) x4.2 ((a2.aP.length:Int) == (x20.length:Int)) 136 a2.fB).bind λx22=>
  (kU n a2 x20 a0 x7 x4 n 0 x22 ({ a3 with iD:=([99,97,108,108]:cJ),gB:=a4,iE:=x4.1,aP:=[] }:aC)).bind λy28=>
  some (y28.2,({ a0 with cD:=(a0.cD.set a0.fK.toNat (x7++[x4.1])) }:aG),y28.1)
def jN (n:Nat) (a0:aG) (a1:aH) (a2:aD):Option Bool:=
 (if a2.bS == 17 then
    (uQ n a2.cZ).bind λx4=>
    some (x4 == 0)
   else
    some false).bind λy2=>
 some y2
def pB (n:Nat) (a0:aG) (a1:aH) (a2:aD) (a3:aC):Option (aC × aG × aH):=
 (bM a2.aP 0).bind λx4=>
 (jN n a0 a1 x4).bind λx5=>
 if x5 then
  (jA n a0 a1 x4 ({ a3 with aP:=[] }:aC) (-1:Int)).bind λx13=>
  if x13.2.2.e_ != 0 then
   some (({ x13.1 with fB:=a2.fB }:aC),x13.2.1,x13.2.2)
  else
   (bM x13.2.1.p_.bF x13.1.iE).bind λx16=>
   (bB x13.2.1 x13.2.2 (x16.bU != 0) 132 a2.fB).bind λx30=>
   (eE n x13.2.1 x30 (aL.mk a2.cZ x16.bU 0) a2.fB).bind λx32=>
   some (({ x13.1 with gB:=x32.1,fB:=a2.fB }:aC),x32.2.1,x32.2.2)
 else
  (gA n a0 a1 x4).bind λx34=>
  (tJ x34.1.cL).bind λx37=>
  (eE n a0 x34.2 (aL.mk a2.cZ x37 0) a2.fB).bind λx38=>
  some (({ a3 with iD:=([118,97,114]:cJ),gB:=x38.1,aP:=[x34.1] }:aC),x38.2.1,x38.2.2)
def nJ (n:Nat) (a0:aG) (a1:aH) (a2:aD):Option (Int × aH):=
 (fZ n a0 a1 a2).bind λx2=>
 (eS a0 x2.2 x2.1).bind λx4=>
 (if x4 == 2 then
    (bB a0 x2.2 true 132 a2.fB).bind λx8=>
    some x8
   else
    (bB a0 x2.2 (x4 == 3) 132 a2.fB).bind λx10=>
    some x10).bind λy6=>
 some (x2.1,y6)
def qJ (n:Nat) (a0:aG) (a1:aH) (a2:aD) (a3:aC):Option (aC × aG × aH):=
 (nJ n a0 a1 a2).bind λx4=>
 (bM a2.aP 0).bind λx6=>
 (jN n a0 x4.2 x6).bind λx7=>
 if x7 then
  (jA n a0 x4.2 x6 ({ a3 with aP:=[] }:aC) x4.1).bind λx15=>
  if x15.2.2.e_ == 0 then
   (eS x15.2.1 x15.2.2 x4.1).bind λx18=>
   (bM x15.2.1.p_.bF x15.1.iE).bind λx19=>
   (bB x15.2.1 x15.2.2 (x19.bU == x18) 132 a2.fB).bind λx21=>
   some (({ x15.1 with fB:=a2.fB }:aC),x15.2.1,x21)
  else
   some (({ x15.1 with fB:=a2.fB }:aC),x15.2.1,x15.2.2)
 else
  (gA n a0 x4.2 x6).bind λx36=>
  (eS a0 x36.2 x4.1).bind λx39=>
  (tM x36.1.cL x39).bind λx40=>
  (bB a0 x36.2 x40 132 a2.fB).bind λx41=>
  some (({ a3 with iD:=([115,101,116]:cJ),gB:=x4.1,aP:=[x36.1] }:aC),a0,x41)
def pA (n:Nat) (a0:aG) (a1:aH) (a2:aD) (a3:Int):Option (aF × aH):=
 (eK n a0 a1 a2).bind λx3=>
 (if x3.2.e_ == 0 then
    some (decide (x3.1.iD=([110,117,109]:cJ)))
   else
    some false).bind λy6=>
 if y6 then
  (bM a0.p_.bF a0.f_).bind λx12=>
  (bM x12.aW a3).bind λx15=>
  (bB a0 x3.2 (decide ((i64.wrap x3.1.N_)<x15.pI)) 137 a2.fB).bind λx16=>
  some (x3.1,x16)
 else
  some (x3.1,x3.2)
def qK (n:Nat) (a0:aG) (a1:aH) (a2:aD) (a3:aC):Option (aC × aH):=
 (fZ n a0 a1 a2).bind λx4=>
 (eS a0 x4.2 x4.1).bind λx6=>
 (bB a0 x4.2 (x6 == 4) 132 a2.fB).bind λx7=>
 (bM a2.aP 0).bind λx10=>
 (pA n a0 x7 x10 x4.1).bind λx11=>
 (bM a2.aP 1).bind λx19=>
 (gA n a0 x11.2 x19).bind λx20=>
 (tM x20.1.cL 2).bind λx28=>
 (bB a0 x20.2 x28 132 a2.fB).bind λx29=>
 some (({ a3 with iD:=([112,117,116]:cJ),gB:=x4.1,aP:=[x11.1,x20.1] }:aC),x29)
def pS (n:Nat) (a0:aG) (a1:aH) (a2:aD) (a3:aC) (a4:Bool):Option (aC × aG × aH):=
 (if a4 then
    (bM a0.p_.bF a0.f_).bind λx6=>
    (bB a0 a1 (x6.bU != 0) 135 a2.fB).bind λx9=>
    some x9
   else
    (bB a0 a1 false 135 a2.fB).bind λx24=>
    some x24).bind λy4=>
 (if y4.e_ == 0 then
    (bM a2.aP 0).bind λx31=>
    (jN n a0 y4 x31).bind λx32=>
    some x32
   else
    some false).bind λy29=>
 if y29 then
  (bM a2.aP 0).bind λx43=>
  (jA n a0 y4 x43 ({ a3 with aP:=[] }:aC) (-2:Int)).bind λx44=>
  if x44.2.2.e_ == 0 then
   (bM x44.2.1.p_.bF x44.1.iE).bind λx52=>
   (bM x44.2.1.p_.bF x44.2.1.f_).bind λx54=>
   (bB x44.2.1 x44.2.2 (x52.bU == x54.bU) 132 a2.fB).bind λx57=>
   some (({ x44.1 with fB:=a2.fB }:aC),x44.2.1,x57)
  else
   some (({ x44.1 with fB:=a2.fB }:aC),x44.2.1,x44.2.2)
 else
  (bM a2.aP 0).bind λx83=>
  (gA n a0 y4 x83).bind λx84=>
  (bM a0.p_.bF a0.f_).bind λx92=>
  (tM x84.1.cL x92.bU).bind λx95=>
  (bB a0 x84.2 x95 132 a2.fB).bind λx96=>
  some (({ a3 with iD:=([114,101,116,117,114,110]:cJ),aP:=[x84.1] }:aC),a0,x96)
@[go_sem] def kG (dQ:aG->aH->aD->Bool->Option (aC × aG × aH)) (a2:aD) (a3:Bool):Nat->(List aC)->Int->aG->aH->Option ((List aC) × aG × aH)
 | 0,_,_,_,_=>none
 | c9+1,v4,v5,v6,v7=>
   if decide (v5<(a2.aP.length:Int)) then
    (bM a2.aP v5).bind λx14=>
    if v7.e_ != 0 then
     some (v4,v6,v7)
    else
     (if a3 then
        (dQ v6 v7 x14 (v5 == (i64.wrap ((a2.aP.length:Int) - 1)))).bind λx28=>
        gL (v4.length+[x28.1].length<=1073741824) <|
        some ((v4++[x28.1]),x28.2.1,x28.2.2)
       else
        (dQ v6 v7 x14 false).bind λx33=>
        gL (v4.length+[x33.1].length<=1073741824) <|
        some ((v4++[x33.1]),x33.2.1,x33.2.2)).bind λy26=>
     kG dQ a2 a3 c9 y26.1 (i64.wrap (v5+1)) y26.2.1 y26.2.2
   else
    some (v4,v6,v7)
def nL (dQ:aG->aH->aD->Bool->Option (aC × aG × aH)) (n:Nat) (a0:aG) (a1:aH) (a2:aD) (a3:Bool):Option ((List aC) × aG × aH):=
 (kG dQ a2 a3 n [] 0 a0 a1).bind λy8=>
 gL (0<=(a0.bI.length:Int)/\(a0.bI.length:Int)<=(y8.2.1.bI.length:Int)) <|
 some (y8.1,({ y8.2.1 with bI:=(y8.2.1.bI.take (a0.bI.length)) }:aG),y8.2.2)
@[go_sem] def fP (cU:aG->aH->aD->Bool->Option ((List aC) × aG × aH)) (a2:aD):Nat->Int->aG->aH->aC->Option (aG × aH × aC)
 | 0,_,_,_,_=>none
 | c59+1,v54,v55,v56,v57=>
   if decide (v54<((a2.aP.drop 2).length:Int)) then
    (bM (a2.aP.drop 2) v54).bind λx64=>
    (cU v55 v56 x64 false).bind λx70=>
    fP cU a2 c59 (i64.wrap (v54+1)) x70.2.1 x70.2.2 ({ v57 with gT:=x70.1 }:aC)
   else
    some (v55,v56,v57)
def kO (cU:aG->aH->aD->Bool->Option ((List aC) × aG × aH)) (pK:aG->aH->aD->aC->Option (aC × aG × aH)) (n:Nat) (a0:aG) (a1:aH) (a2:aD) (a3:Bool):Option (aC × aG × aH):=
 if a2.bS == 5 then
  (bM a2.aP 0).bind λx5=>
  (eK n a0 a1 x5).bind λx6=>
  (eE n a0 x6.2 (aL.mk a2.cZ 1 0) a2.fB).bind λx13=>
  some ((aC.mk ([108,101,116]:cJ) x13.1 0 [x6.1] [] [] a2.fB),x13.2.1,x13.2.2)
 else
  if a2.bS == 6 then
   (pB n a0 a1 a2 (aC.mk [] (-1:Int) 0 [] [] [] a2.fB)).bind λx16=>
   some (x16.1,x16.2.1,x16.2.2)
  else
   if a2.bS == 7 then
    (wV (i64.wrap (min a2.oL 1025))).bind λx19=>
    (bB a0 a1 x19 136 a2.fB).bind λx20=>
    (eE n a0 x20 (aL.mk a2.cZ 4 (i64.wrap a2.oL)) a2.fB).bind λx23=>
    some ((aC.mk ([97,114,114]:cJ) x23.1 0 [] [] [] a2.fB),x23.2.1,x23.2.2)
   else
    if a2.bS == 8 then
     (qJ n a0 a1 a2 (aC.mk [] (-1:Int) 0 [] [] [] a2.fB)).bind λx26=>
     some (x26.1,x26.2.1,x26.2.2)
    else
     if a2.bS == 9 then
      (qK n a0 a1 a2 (aC.mk [] (-1:Int) 0 [] [] [] a2.fB)).bind λx29=>
      some (x29.1,a0,x29.2)
     else
      if a2.bS == 10 then
       (jA n a0 a1 a2 (aC.mk [] (-1:Int) 0 [] [] [] a2.fB) (-1:Int)).bind λx32=>
       some (x32.1,x32.2.1,x32.2.2)
      else
       if a2.bS == 11 then
        (bM a2.aP 0).bind λx35=>
        (eK n a0 a1 x35).bind λx36=>
        (bM a2.aP 1).bind λx43=>
        (cU a0 x36.2 x43 false).bind λx44=>
        gL ((0:Int)<=2/\2<=(a2.aP.length:Int)) <|
        (fP cU a2 n 0 x44.2.1 x44.2.2 (aC.mk ([105,102]:cJ) (-1:Int) 0 [x36.1] x44.1 [] a2.fB)).bind λy58=>
        some (y58.2.2,y58.1,y58.2.1)
       else
        if a2.bS == 12 then
         (pK a0 a1 a2 (aC.mk [] (-1:Int) 0 [] [] [] a2.fB)).bind λx73=>
         some (x73.1,x73.2.1,x73.2.2)
        else
         if a2.bS == 13 then
          (pS n a0 a1 a2 (aC.mk [] (-1:Int) 0 [] [] [] a2.fB) a3).bind λx76=>
          some (x76.1,x76.2.1,x76.2.2)
         else
          some ((aC.mk [] (-1:Int) 0 [] [] [] a2.fB),a0,a1)
def oF (cU:aG->aH->aD->Bool->Option ((List aC) × aG × aH)) (n:Nat) (a0:aG) (a1:aH) (a2:aD) (a3:aC):Option (aC × aG × aH):=
 (bM a2.aP 0).bind λx4=>
 (eK n a0 a1 x4).bind λx5=>
 (bM a2.aP 1).bind λx6=>
 (eK n a0 x5.2 x6).bind λx7=>
 (eE n a0 x7.2 (aL.mk a2.cZ 1 0) a2.fB).bind λx21=>
 (bM a2.aP 2).bind λx23=>
 (cU x21.2.1 x21.2.2 x23 false).bind λx24=>
 gL (0<=(min (a0.bI.length:Int) (x24.2.1.bI.length:Int))/\(min (a0.bI.length:Int) (x24.2.1.bI.length:Int))<=(x24.2.1.bI.length:Int)) <|
 some (({ a3 with iD:=([102,111,114]:cJ),gB:=x21.1,aP:=[x5.1,x7.1],bY:=x24.1 }:aC),({ x24.2.1 with bI:=(x24.2.1.bI.take ((min (a0.bI.length:Int) (x24.2.1.bI.length:Int)).toNat)) }:aG),x24.2.2)
def eB:Nat->(aG->aH->aD->Bool->Option ((List aC) × aG × aH)) × (aG->aH->aD->Bool->Option (aC × aG × aH)) × (aG->aH->aD->aC->Option (aC × aG × aH))
 | 0=>(λ_ _ _ _=>none,λ_ _ _ _=>none,λ_ _ _ _=>none)
 | n+1=>(nL (eB n).2.1 n,kO (eB n).1 (eB n).2.2 n,oF (eB n).1 n)
def uB (n:Nat):aG->aH->aD->Bool->Option ((List aC) × aG × aH):=(eB n).1
def Ce (n:Nat):aG->aH->aD->Bool->Option (aC × aG × aH):=(eB n).2.1
def Fy (n:Nat):aG->aH->aD->aC->Option (aC × aG × aH):=(eB n).2.2
def vO (a0:aD):Option Bool:=
 (if decide (0<(a0.aP.length:Int)) then
    (bM a0.aP (i64.wrap ((a0.aP.length:Int) - 1))).bind λx4=>
    some (x4.bS == 13)
   else
    some false).bind λy2=>
 some y2
@[go_sem] def iS (n:Nat) (a3:aD):Nat->Int->aG->aH->Option (aG × aH)
 | 0,_,_,_=>none
 | c11+1,v7,v8,v9=>
   if decide (v7<((a3.aP.drop (max (i64.wrap ((a3.aP.length:Int) - 1)) 0).toNat).length:Int)) then
    (bM (a3.aP.drop (max (i64.wrap ((a3.aP.length:Int) - 1)) 0).toNat) v7).bind λx16=>
    (bM v8.p_.bF v8.f_).bind λx22=>
    (uB n v8 v9 x16 true).bind λx25=>
    (bM x25.2.1.p_.bF v8.f_).bind λx26=>
    ((bM (x25.2.1.p_.bF.set v8.f_.toNat { x26 with bY:=x25.1 }) v8.f_).bind λx56=>
      if x56.bU == 0 then
       (bB ({ x25.2.1 with p_:=⟨(x25.2.1.p_.bF.set v8.f_.toNat { x26 with bY:=x25.1 })⟩ }:aG) x25.2.2 true 135 a3.fB).bind λx71=>
       some x71
      else
       (vO x16).bind λx73=>
       (bB ({ x25.2.1 with p_:=⟨(x25.2.1.p_.bF.set v8.f_.toNat { x26 with bY:=x25.1 })⟩ }:aG) x25.2.2 x73 135 a3.fB).bind λx74=>
       some x74).bind λy55=>
    iS n a3 c11 (i64.wrap (v7+1)) ({ x25.2.1 with p_:=⟨(x25.2.1.p_.bF.set v8.f_.toNat { x26 with bY:=x25.1 })⟩ }:aG) y55
   else
    some (v8,v9)
def lK (n:Nat) (a0:aG) (a1:aH) (a2:Int) (a3:aD):Option (aG × aH):=
 (mI n a0 a1 a2).bind λx2=>
 gL (0<=(max (i64.wrap ((a3.aP.length:Int) - 1)) 0)/\(max (i64.wrap ((a3.aP.length:Int) - 1)) 0)<=(a3.aP.length:Int)) <|
 (iS n a3 n 0 x2.1 x2.2).bind λy10=>
 some (y10.1,y10.2)
def wK (rec_:Int->List Int->Option (Bool × List Int)) (to:Int):List Int->List Int->Option (Bool × List Int)
 | [],seen=>some (false,seen)
 | k::ks,seen=>
   if k == to then some (true,seen)
   else
    (bM seen k).bind λs=>
    if i64.wrap (s+1) == 1 then
     (rec_ k (seen.set k.toNat (i64.wrap (s+1)))).bind λr=>
     if r.1=true then some (true,r.2) else wK rec_ to ks r.2
    else wK rec_ to ks (seen.set k.toNat (i64.wrap (s+1)))
def kS:Nat->aG->Int->Int->List Int->Option (Bool × List Int)
 | 0,_,_,_,_=>none
 | n+1,c,fr,to,seen=>(bM c.cD fr).bind λl=>gL (l.length<=1073741824) <| wK (λk s=>kS n c k to s) to l seen
abbrev Look:=Int->aD->aG->aH->Option (aG × aH)
def tK (look:Look):List aD->Nat->aG->aH->Option (aG × aH)
 | [],_,c,w=>some (c,w)
 | f::l,i,c,w=>if w.e_ == 0 then (look i f c w).bind λr=>tK look l (i+1) r.1 r.2 else tK look l (i+1) c w
def wW (nodes:List aD):List Look->aG->aH->Option (aG × aH)
 | [],c,w=>some (c,w)
 | look::ls,c,w=>(tK look nodes 0 c w).bind λr=>wW nodes ls r.1 r.2
def zR (n len:Nat) (c:aG):List aD->Nat->aH->Option aH
 | [],_,w=>some w
 | f::l,i,w=>if w.e_ == 0 then (kS n c i i (List.replicate len 0)).bind λr=>(bB c w (!r.1) 134 f.fB).bind λw'=>zR n len c l (i+1) w' else zR n len c l (i+1) w
def Av (n:Nat) (a0:cJ):Option (bL × Int × Int):=
 (Af n a0).bind λp=>
 if p.2.1 != 0 then some (⟨[]⟩,p.2.1,p.2.2)
 else
  (oZ n aG.Z ⟨0,0⟩ p.1).bind λa=>
  gL (p.1.aP.length<=1073741824) <|
  (wW p.1.aP [λi f c w=>lI n c w i f,λi f c w=>lK n c w i f] a.1 a.2).bind λb=>
  (zR n p.1.aP.length b.1 p.1.aP 0 b.2).bind λw=>
  if w.e_ != 0 then some (⟨[]⟩,w.e_,w.CK) else some (b.1.p_,0,0)
structure aJ where
 p_:bL
 f_:aR
 eW:Int
 e_:Int
def dM (a0:aJ):Option aJ:=
 if decide (16384<(i64.wrap (a0.eW+1))) then
  some ({ a0 with eW:=(i64.wrap (a0.eW+1)),e_:=161 }:aJ)
 else
  some ({ a0 with eW:=(i64.wrap (a0.eW+1)) }:aJ)
def xW (a0:Int) (a1:(List Int)):Option Int:=
 (if decide (a0<0) then
    some true
   else
    some (decide ((a1.length:Int)<=a0))).bind λy1=>
 if y1 then
  some a0
 else
  (bM a1 a0).bind λx7=>
  some x7
def uN (uL:(List aF)->(List Int)->Option (List aF)) (n:Nat) (a0:aF) (a1:(List Int)):Option aF:=
 (xW a0.gB a1).bind λx3=>
 (uL a0.aP a1).bind λx5=>
 some ({ a0 with gB:=x3,aP:=x5 }:aF)
@[go_sem] def tW (qW:aF->(List Int)->Option aF) (a0:(List aF)) (a1:(List Int)):Nat->(List aF)->Int->Option (List aF)
 | 0,_,_=>none
 | c5+1,v2,v3=>
   if decide (v3<(a0.length:Int)) then
    (bM a0 v3).bind λx10=>
    (qW x10 a1).bind λx16=>
    gL (v2.length+[x16].length<=1073741824) <|
    tW qW a0 a1 c5 (v2++[x16]) (i64.wrap (v3+1))
   else
    some v2
def tH (qW:aF->(List Int)->Option aF) (n:Nat) (a0:(List aF)) (a1:(List Int)):Option (List aF):=
 (tW qW a0 a1 n [] 0).bind λy4=>
 some y4
def zX:Nat->(aF->(List Int)->Option aF) × ((List aF)->(List Int)->Option (List aF))
 | 0=>(λ_ _=>none,λ_ _=>none)
 | n+1=>(uN (zX n).2 n,tH (zX n).1 n)
def qZ (n:Nat):aF->(List Int)->Option aF:=(zX n).1
def tI (n:Nat):(List aF)->(List Int)->Option (List aF):=(zX n).2
def dL (a0:aJ) (a1:aL):Option (Int × aJ):=
 if decide (4096<=(a0.f_.aW.length:Int)) then
  some (0,({ a0 with e_:=161 }:aJ))
 else
  gL (a0.f_.aW.length+[a1].length<=1073741824) <|
  some ((i64.wrap (((a0.f_.aW++[a1]).length:Int) - 1)),({ a0 with f_:=({ a0.f_ with aW:=(a0.f_.aW++[a1]) }:aR) }:aJ))
@[go_sem] def eI (n:Nat) (a1:aC) (a3:(List Int)) (a2:aR):Nat->(List aC)->(List Int)->Int->aJ->Option ((List aC) × (List Int) × aJ)
 | 0,_,_,_,_=>none
 | c9+1,v4,v5,v6,v7=>
   if decide (v6<(a1.aP.length:Int)) then
    ((bM a1.aP v6).bind λx15=>
      if x15.cL == 4 then
       (xW x15.gB a3).bind λx22=>
       gL (v5.length+[x22].length<=1073741824) <|
       some (v4,(v5++[x22]),v7)
      else
       (bM a2.aW v6).bind λx29=>
       if x29.bS == 1 then
        (dM v7).bind λx35=>
        (dL x35 x29).bind λx37=>
        gL (v5.length+[x37.1].length<=1073741824) <|
        (qZ n x15 a3).bind λx44=>
        gL (v4.length+[(aC.mk ([108,101,116]:cJ) x37.1 0 [x44] [] [] a1.fB)].length<=1073741824) <|
        some ((v4++[(aC.mk ([108,101,116]:cJ) x37.1 0 [x44] [] [] a1.fB)]),(v5++[x37.1]),x37.2)
       else
        (dM v7).bind λx49=>
        (dL x49 x29).bind λx51=>
        gL (v5.length+[x51.1].length<=1073741824) <|
        (qZ n x15 a3).bind λx58=>
        gL (v4.length+[(aC.mk ([118,97,114]:cJ) x51.1 0 [x58] [] [] a1.fB)].length<=1073741824) <|
        some ((v4++[(aC.mk ([118,97,114]:cJ) x51.1 0 [x58] [] [] a1.fB)]),(v5++[x51.1]),x51.2)).bind λy14=>
    eI n a1 a3 a2 c9 y14.1 y14.2.1 (i64.wrap (v6+1)) y14.2.2
   else
    some (v4,v5,v7)
def mH (n:Nat) (a0:aJ) (a1:aC) (a2:aR) (a3:(List Int)):Option ((List aC) × (List Int) × aJ):=
 (eI n a1 a3 a2 n [] [] 0 a0).bind λy8=>
 some (y8.1,y8.2.1,y8.2.2)
def jL (a0:aJ) (a1:aC) (a2:(List Int)) (a3:aC):Option aC:=
 (bM a0.p_.bF a1.iE).bind λx4=>
 if a1.gB == (-2:Int) then
  if decide (a3.fB<0) then
   some ({ a3 with fB:=a1.fB }:aC)
  else
   some a3
 else
  if a1.gB == (-1:Int) then
   some (aC.mk ([118,97,114]:cJ) (-1:Int) x4.bU [] [] [] a1.fB)
  else
   (xW a1.gB a2).bind λx12=>
   some (aC.mk ([115,101,116]:cJ) x12 0 [] [] [] a1.fB)
def eF (a0:aJ) (a1:aF) (a2:aC):Option (aC × aJ):=
 if decide (a2.iD=([118,97,114]:cJ)) then
  (dL a0 (aL.mk [] a2.iE 0)).bind λx5=>
  some (({ a2 with gB:=x5.1,iE:=0,aP:=[a1] }:aC),x5.2)
 else
  some (({ a2 with iE:=0,aP:=[a1] }:aC),a0)
@[go_sem] def dF (eC:aJ->aC->(List Int)->aC->Option ((List aC) × aJ)) (a1:(List aC)) (a2:(List Int)) (a3:aC):Nat->(List aC)->Int->aJ->Option (((List aC) × aJ) ⊕ ((List aC) × aJ))
 | 0,_,_,_=>none
 | c7+1,v3,v4,v5=>
   if decide (v4<(a1.length:Int)) then
    (bM a1 v4).bind λx12=>
    if v5.e_ != 0 then
     some (.inr ([],v5))
    else
     (eC v5 x12 a2 a3).bind λx19=>
     gL (v3.length+x19.1.length<=1073741824) <|
     dF eC a1 a2 a3 c7 (v3++x19.1) (i64.wrap (v4+1)) x19.2
   else
    some (.inl (v3,v5))
def fD (eC:aJ->aC->(List Int)->aC->Option ((List aC) × aJ)) (n:Nat) (a0:aJ) (a1:(List aC)) (a2:(List Int)) (a3:aC):Option ((List aC) × aJ):=
 (dF eC a1 a2 a3 n [] 0 a0).bind λy6=>
 y6.elim (λy6a=>
  some (y6a.1,y6a.2)) (λy6a=>
  some y6a)
def dW (oQ:aJ->aC->(List Int)->aC->Option ((List aC) × aJ)) (dT:aJ->(List aC)->(List Int)->aC->Option ((List aC) × aJ)) (n:Nat) (a0:aJ) (a1:aC) (a2:(List Int)) (a3:aC):Option ((List aC) × aJ):=
 if decide (a1.iD=([99,97,108,108]:cJ)) then
  (oQ a0 a1 a2 a3).bind λx4=>
  some (x4.1,x4.2)
 else
  (dM a0).bind λx6=>
  if decide (a1.iD=([114,101,116,117,114,110]:cJ)) then
   (bM a1.aP 0).bind λx9=>
   (qZ n x9 a2).bind λx10=>
   if decide (a3.fB<0) then
    (eF x6 x10 ({ a3 with fB:=a1.fB }:aC)).bind λx19=>
    some ([x19.1],x19.2)
   else
    (eF x6 x10 a3).bind λx21=>
    some ([x21.1],x21.2)
  else
   (xW a1.gB a2).bind λx23=>
   (tI n a1.aP a2).bind λx24=>
   (dT x6 a1.bY a2 a3).bind λx27=>
   (dT x27.2 a1.gT a2 a3).bind λx28=>
   some ([({ a1 with gB:=x23,aP:=x24,bY:=x27.1,gT:=x28.1 }:aC)],x28.2)
@[go_sem] def eH (x5:aR):Nat->(List Int)->Int->aJ->Option ((List Int) × aJ)
 | 0,_,_,_=>none
 | c20+1,v16,v17,v18=>
   if decide (v17<((x5.aW.drop x5.bC.toNat).length:Int)) then
    (bM (x5.aW.drop x5.bC.toNat) v17).bind λx25=>
    (dL v18 x25).bind λx31=>
    gL (v16.length+[x31.1].length<=1073741824) <|
    eH x5 c20 (v16++[x31.1]) (i64.wrap (v17+1)) x31.2
   else
    some (v16,v18)
def fM (dT:aJ->(List aC)->(List Int)->aC->Option ((List aC) × aJ)) (n:Nat) (a0:aJ) (a1:aC) (a2:(List Int)) (a3:aC):Option ((List aC) × aJ):=
 (dM a0).bind λx3=>
 (bM x3.p_.bF a1.iE).bind λx5=>
 (mH n x3 a1 x5 a2).bind λx11=>
 gL (0<=x5.bC/\x5.bC<=(x5.aW.length:Int)) <|
 (eH x5 n x11.2.1 0 x11.2.2).bind λy19=>
 if y19.2.e_ != 0 then
  some ([],y19.2)
 else
  (jL y19.2 a1 a2 a3).bind λx48=>
  (dT y19.2 x5.bY y19.1 x48).bind λx49=>
  gL (x11.1.length+x49.1.length<=1073741824) <|
  some ((x11.1++x49.1),x49.2)
def gG:Nat->(aJ->(List aC)->(List Int)->aC->Option ((List aC) × aJ)) × (aJ->aC->(List Int)->aC->Option ((List aC) × aJ)) × (aJ->aC->(List Int)->aC->Option ((List aC) × aJ))
 | 0=>(λ_ _ _ _=>none,λ_ _ _ _=>none,λ_ _ _ _=>none)
 | n+1=>(fD (gG n).2.1 n,dW (gG n).2.2 (gG n).1 n,fM (gG n).1 n)
def dX (n:Nat):aJ->(List aC)->(List Int)->aC->Option ((List aC) × aJ):=(gG n).1
def fI (n:Nat):aJ->aC->(List Int)->aC->Option ((List aC) × aJ):=(gG n).2.1
def kK (n:Nat):aJ->aC->(List Int)->aC->Option ((List aC) × aJ):=(gG n).2.2
def wS (n:Nat) (a0:bL) (a1:Int):Option (aR × Int):=
 (if decide (a1<0) then
    some true
   else
    some (decide ((a0.bF.length:Int)<=a1))).bind λy3=>
 if y3 then
  some ((aR.mk [] false 0 0 [] []),11)
 else
  (bM a0.bF a1).bind λx9=>
  gL (x9.aW.length<=1073741824) <|
  (dX n (aJ.mk a0 x9 0 0) x9.bY [] (aC.mk ([114,101,116,117,114,110]:cJ) (-1:Int) 0 [] [] [] (-1:Int))).bind λx17=>
  if x17.2.e_ != 0 then
   some ((aR.mk [] false 0 0 [] []),x17.2.e_)
  else
   some (({ x17.2.f_ with bY:=x17.1 }:aR),0)
structure aN where
 iD:Int
 N_:Int
 aP:(List aN)
mutual
def aN.C:aN->List V
 | ⟨a0,a1,a2⟩=>[.lit (.int .i64 a0),.lit (.int .u32 a1),.list .none (aN.CL a2)]
def aN.CL:List aN->List (List V)
 | []=>[]
 | x::l=>aN.C x::aN.CL l
end
theorem aN.CL_eq (l:List aN):aN.CL l=l.map aN.C:=by
 induction l with
 | nil=>rfl
 | cons x l ih=>rw [aN.CL,ih];rfl
@[go_sem] theorem aN.C_eq (x:aN):aN.C x=[.lit (.int .i64 x.iD),.lit (.int .u32 x.N_),.list .none (x.aP.map aN.C)]:=by
 cases x;simp only [aN.C,aN.CL_eq]
def aN.Z:aN:=⟨0,0,[]⟩
structure bH where
 bP:(List aN)
 gW:(List Int)
 tT:(List Int)
 oO:(List Int)
def bH.C (x:bH):List V:=[.list .none (x.bP.map aN.C),.list .none (x.gW.map (cI .i64)),.list .none (x.tT.map (cI .u32)),.list .none (x.oO.map (cI .u32))]
@[go_sem] theorem bH.C_eq (x:bH):bH.C x=[.list .none (x.bP.map aN.C),.list .none (x.gW.map (cI .i64)),.list .none (x.tT.map (cI .u32)),.list .none (x.oO.map (cI .u32))]:=rI rfl
structure aT where
 c_:bH
 e_:Int
structure eJ where
 fK:Int
def eJ.C (x:eJ):List V:=[.lit (.int .i64 x.fK)]
@[go_sem] theorem eJ.C_eq (x:eJ):eJ.C x=[.lit (.int .i64 x.fK)]:=rI rfl
structure cQ where
 sL:(List Int)
 ES:(List Int)
 bU:Int
 LQ:Int
def cQ.C (x:cQ):List V:=[.list .none (x.sL.map (cI .i64)),.list .none (x.ES.map (cI .i64)),.lit (.int .i64 x.bU),.lit (.int .i64 x.LQ)]
@[go_sem] theorem cQ.C_eq (x:cQ):cQ.C x=[.list .none (x.sL.map (cI .i64)),.list .none (x.ES.map (cI .i64)),.lit (.int .i64 x.bU),.lit (.int .i64 x.LQ)]:=rI rfl
structure bR where
 Reg_:Int
 sL:Int
def bR.C (x:bR):List V:=[.lit (.int .i64 x.Reg_),.lit (.int .i64 x.sL)]
@[go_sem] theorem bR.C_eq (x:bR):bR.C x=[.lit (.int .i64 x.Reg_),.lit (.int .i64 x.sL)]:=rI rfl
@[go_sem] def yC (jZ:(List aC)->Option Int) (a0:(List aC)):Nat->Int->Int->Option Int
 | 0,_,_=>none
 | c5+1,v2,v3=>
   if decide (v3<(a0.length:Int)) then
    ((bM a0 v3).bind λx11=>
      if decide (x11.iD=([102,111,114]:cJ)) then
       (jZ x11.bY).bind λx18=>
       (jZ x11.gT).bind λx19=>
       some (i64.wrap ((i64.wrap (v2+1))+(i64.wrap (x18+x19))))
      else
       (jZ x11.bY).bind λx22=>
       (jZ x11.gT).bind λx23=>
       some (i64.wrap (v2+(i64.wrap (x22+x23))))).bind λy10=>
    yC jZ a0 c5 y10 (i64.wrap (v3+1))
   else
    some v2
def vN (jZ:(List aC)->Option Int) (n:Nat) (a0:(List aC)):Option Int:=
 (yC jZ a0 n 0 0).bind λy4=>
 some y4
def wT:Nat->(List aC)->Option Int
 | 0=>λ_=>none
 | n+1=>vN (wT n) n
def tA (a0:List Int) (a1:Int):Option (List Int):=if a0.length=1/\a1=4 then some (a0++a0++a0++a0) else none
def Ei (a0:Int):Option aN:=
 some (aN.mk 2 (u32.wrap a0) [])
@[go_sem] def zV (pQ:aN->Option Int) (a0:aN):Nat->Int->Int->Option Int
 | 0,_,_=>none
 | c6+1,v3,v4=>
   if decide (v4<(a0.aP.length:Int)) then
    (bM a0.aP v4).bind λx11=>
    (pQ x11).bind λx17=>
    zV pQ a0 c6 (i64.wrap (v3+x17)) (i64.wrap (v4+1))
   else
    some v3
def xG (pQ:aN->Option Int) (n:Nat) (a0:aN):Option Int:=
 (zV pQ a0 n 1 0).bind λy5=>
 some y5
def vY:Nat->aN->Option Int
 | 0=>λ_=>none
 | n+1=>xG (vY n) n
@[go_sem] def gN (fX:bH->aF->Option Int) (a1:aF) (a0:bH):Nat->Int->Int->Option Int
 | 0,_,_=>none
 | c18+1,v15,v16=>
   if decide (v16<(a1.aP.length:Int)) then
    (bM a1.aP v16).bind λx23=>
    (fX a0 x23).bind λx29=>
    gN fX a1 a0 c18 (i64.wrap (v15+x29)) (i64.wrap (v16+1))
   else
    some v15
def eL (fX:bH->aF->Option Int) (n:Nat) (a0:bH) (a1:aF):Option Int:=
 if decide (a1.iD=([118,97,114]:cJ)) then
  (bM a0.bP a1.gB).bind λx4=>
  (vY n x4).bind λx5=>
  some x5
 else
  (gN fX a1 a0 n 1 0).bind λy17=>
  some y17
def iC:Nat->bH->aF->Option Int
 | 0=>λ_ _=>none
 | n+1=>eL (iC n) n
def wJ (a0:aN) (a1:(List Int)):Option Int:=
 if a0.iD == 1 then
  some a0.N_
 else
  if decide ((i64.wrap a0.N_)<(a1.length:Int)) then
   (bM a1 a0.N_).bind λx4=>
   some x4
  else
   some 0
def uI (a0:Bool):Option Int:=
 if a0 then
  some 1
 else
  some 0
def Aa (a0:Int) (a1:Int):Option Int:=
 if a0 == 3 then
  some (comK .u32 a1)
 else
  some (u32.wrap (0 - a1))
def lR (a0:Int) (a1:Int):Option Int:=
 gL (0<=(wD .u64 (u64.wrap a1) 31)) <|
 gL (0<=(u64.wrap (32 - (wD .u64 (u64.wrap a1) 31)))) <|
 some (orK .u32 (shlK .u32 a0 (wD .u64 (u64.wrap a1) 31)) (Ho .u32 a0 (u64.wrap (32 - (wD .u64 (u64.wrap a1) 31)))))
def tE (a0:Int) (a1:Int) (a2:Int):Option Int:=
 if a0 == 5 then
  some (orK .u32 a1 a2)
 else
  if a0 == 6 then
   some (xorK .u32 a1 a2)
  else
   if a0 == 7 then
    some (wD .u32 a1 a2)
   else
    if a0 == 10 then
     gL (0<=(wD .u32 a2 31)) <|
     some (shlK .u32 a1 (wD .u32 a2 31))
    else
     if a0 == 11 then
      gL (0<=(wD .u32 a2 31)) <|
      some (Ho .u32 a1 (wD .u32 a2 31))
     else
      (lR a1 (i64.wrap (wD .u32 a2 31))).bind λx8=>
      some x8
def jX (a0:Int) (a1:Int) (a2:Int):Option (Int × Bool):=
 if a0 == 8 then
  (uI (a1 == a2)).bind λx2=>
  some (x2,true)
 else
  if a0 == 9 then
   (uI (decide (a1<a2))).bind λx5=>
   some (x5,true)
  else
   if a0 == 13 then
    some ((u32.wrap (a1+a2)),true)
   else
    if a0 == 14 then
     some ((u32.wrap (a1 - a2)),true)
    else
     if a0 == 15 then
      some ((u32.wrap (a1*a2)),true)
     else
      if a0 == 16 then
       if a2 == 0 then
        some (0,false)
       else
        gL (a2 ≠ 0) <|
        some ((u32.wrap (a1.tdiv a2)),true)
      else
       if a0 == 17 then
        if a2 == 0 then
         some (0,false)
        else
         gL (a2 ≠ 0) <|
         some ((a1.tmod a2),true)
       else
        (tE a0 a1 a2).bind λx16=>
        some (x16,true)
def kZ (tU:aN->(List Int)->Option (Int × Bool)) (n:Nat) (a0:aN) (a1:(List Int)):Option (Int × Bool):=
 if (a0.aP.length:Int) == 0 then
  (wJ a0 a1).bind λx3=>
  some (x3,true)
 else
  (bM a0.aP 0).bind λx5=>
  (tU x5 a1).bind λx6=>
  (if !x6.2 then
     some true
    else
     some ((a0.aP.length:Int) == 1)).bind λy13=>
  if y13 then
   (uI x6.2).bind λx19=>
   (Aa a0.iD x6.1).bind λx20=>
   some ((u32.wrap (x19*x20)),x6.2)
  else
   (bM a0.aP 1).bind λx23=>
   (tU x23 a1).bind λx24=>
   if !x24.2 then
    some (0,false)
   else
    (jX a0.iD x6.1 x24.1).bind λx32=>
    some (x32.1,x32.2)
def mG:Nat->aN->(List Int)->Option (Int × Bool)
 | 0=>λ_ _=>none
 | n+1=>kZ (mG n) n
def FT (a0:Int):Option aN:=
 some (aN.mk 1 a0 [])
@[go_sem] def pJ (qV:aN->Option aN) (a0:aN):Nat->Bool->Int->aN->Option (Bool × aN)
 | 0,_,_,_=>none
 | c9+1,v5,v6,v7=>
   if decide (v6<(a0.aP.length:Int)) then
    (bM a0.aP v6).bind λx14=>
    (qV x14).bind λx20=>
    gL (v7.aP.length+[x20].length<=1073741824) <|
    (if v5 then
       some (x20.iD == 1)
      else
       some false).bind λy26=>
    pJ qV a0 c9 y26 (i64.wrap (v6+1)) ({ v7 with aP:=(v7.aP++[x20]) }:aN)
   else
    some (v5,v7)
def nA (qV:aN->Option aN) (n:Nat) (a0:aN):Option aN:=
 (pJ qV a0 n (a0.iD != 2) 0 (aN.mk a0.iD a0.N_ [])).bind λy8=>
 if !y8.1 then
  some y8.2
 else
  (mG n y8.2 []).bind λx38=>
  if x38.2=true then
   (FT x38.1).bind λx41=>
   some x41
  else
   some y8.2
def pE:Nat->aN->Option aN
 | 0=>λ_=>none
 | n+1=>nA (pE n) n
@[go_sem] def AZ (a0:cJ):Nat->Int->Option (Unit ⊕ Int)
 | 0,_=>none
 | c4+1,v2=>
   if decide (v2<15) then
    (bM dR v2).bind λx9=>
    if decide (x9.Iy=a0) then
     some (.inr x9.op_)
    else
     AZ a0 c4 (i64.wrap (v2+1))
   else
    some (.inl ())
def Bi (n:Nat) (a0:cJ):Option Int:=
 (AZ a0 n 0).bind λy3=>
 y3.elim (λy3a=>
  some 0) (λy3a=>
  some y3a)
@[go_sem] def jO (gM:bH->aF->Option aN) (a1:aF) (a0:bH):Nat->Int->aN->Option aN
 | 0,_,_=>none
 | c23+1,v20,v21=>
   if decide (v20<(a1.aP.length:Int)) then
    (bM a1.aP v20).bind λx28=>
    (gM a0 x28).bind λx34=>
    gL (v21.aP.length+[x34].length<=1073741824) <|
    jO gM a1 a0 c23 (i64.wrap (v20+1)) ({ v21 with aP:=(v21.aP++[x34]) }:aN)
   else
    some v21
def eX (gM:bH->aF->Option aN) (n:Nat) (a0:bH) (a1:aF):Option aN:=
 if decide (a1.iD=([110,117,109]:cJ)) then
  (FT a1.N_).bind λx5=>
  some x5
 else
  if decide (a1.iD=([118,97,114]:cJ)) then
   (bM a0.bP a1.gB).bind λx8=>
   some x8
  else
   (Bi n a1.iD).bind λx16=>
   (jO gM a1 a0 n 0 (aN.mk x16 0 [])).bind λy22=>
   some y22
def iQ:Nat->bH->aF->Option aN
 | 0=>λ_ _=>none
 | n+1=>eX (iQ n) n
def pF (n:Nat) (a0:bH) (a1:aF):Option (aN × Int):=
 if a1.cL != 1 then
  some ((aN.mk 0 0 []),132)
 else
  (iC n a0 a1).bind λx5=>
  if decide (2000<x5) then
   some ((aN.mk 0 0 []),161)
  else
   (iQ n a0 a1).bind λx8=>
   (pE n x8).bind λx9=>
   some (x9,0)
def lF (n:Nat) (a0:aT) (a1:aF):Option (aN × aT):=
 (pF n a0.c_ a1).bind λx3=>
 if a0.e_ == 0 then
  some (x3.1,({ a0 with e_:=x3.2 }:aT))
 else
  some (x3.1,a0)
@[go_sem] def pZ (n:Nat) (a1:aF):Nat->Int->aT->Option aT
 | 0,_,_=>none
 | c30+1,v27,v28=>
   if decide (v27<(a1.aP.length:Int)) then
    (bM a1.aP v27).bind λx35=>
    (lF n v28 x35).bind λx41=>
    pZ n a1 c30 (i64.wrap (v27+1)) x41.2
   else
    some v28
@[go_sem] def qA (fW:aT->aF->Option aT) (a1:aF):Nat->Int->aT->Option aT
 | 0,_,_=>none
 | c6+1,v3,v4=>
   if decide (v3<(a1.aP.length:Int)) then
    (bM a1.aP v3).bind λx11=>
    (fW v4 x11).bind λx17=>
    qA fW a1 c6 (i64.wrap (v3+1)) x17
   else
    some v4
def oC (fW:aT->aF->Option aT) (n:Nat) (a0:aT) (a1:aF):Option aT:=
 (qA fW a1 n 0 a0).bind λy5=>
 (if decide (a1.iD=([105,110,100,101,120]:cJ)) then
    some true
   else
    if decide (a1.iD=([47]:cJ)) then
     some true
    else
     some (decide (a1.iD=([37]:cJ)))).bind λy43=>
 if y43 then
  (pZ n a1 n 0 y5).bind λy53=>
  some y53
 else
  some y5
def lH:Nat->aT->aF->Option aT
 | 0=>λ_ _=>none
 | n+1=>oC (lH n) n
def Eh (a0:(List Int)) (a1:Int) (a2:Int):Option Int:=
 if decide ((i64.wrap a1)<(a0.length:Int)) then
  (bM a0 a1).bind λx2=>
  some x2
 else
  some a2
def qH (a0:Int) (a1:Int) (a2:Int):Option (Int × Int):=
 some ((u32.wrap (u64.wrap ((u64.wrap ((u64.wrap a0)+(u64.wrap a1)))+(u64.wrap a2)))),(u32.wrap (Ho .u64 (u64.wrap ((u64.wrap ((u64.wrap a0)+(u64.wrap a1)))+(u64.wrap a2))) 32)))
def Fk (a0:bX) (a1:bX):Option bX:=
 (qH a0.BF a1.BF 0).bind λx4=>
 (qH a0.rM a1.rM 0).bind λx6=>
 if x6.2 == 1 then
  some (bX.mk 0 4294967295)
 else
  some (bX.mk x4.1 x6.1)
def rW (a0:Int) (a1:Int):Option (Int × Int):=
 some ((u32.wrap (Ho .u64 (u64.wrap ((u64.wrap a0)*(u64.wrap a1))) 32)),(u32.wrap (u64.wrap ((u64.wrap a0)*(u64.wrap a1)))))
def xF (a0:bX) (a1:bX):Option bX:=
 (rW a0.rM a1.rM).bind λx4=>
 if decide (0<x4.1) then
  some (bX.mk 0 4294967295)
 else
  some (bX.mk (u32.wrap (a0.BF*a1.BF)) x4.2)
def wI (a0:Int) (a1:bX) (a2:bX):Option bX:=
 if a0 == 8 then
  some (bX.mk 0 1)
 else
  if a0 == 9 then
   some (bX.mk 0 1)
  else
   if a0 == 7 then
    some (bX.mk 0 (min a1.rM a2.rM))
   else
    if a0 == 13 then
     (Fk a1 a2).bind λx8=>
     some x8
    else
     if a0 == 14 then
      if decide (a2.rM<=a1.BF) then
       some (bX.mk (u32.wrap (a1.BF - a2.rM)) (u32.wrap (a1.rM - a2.BF)))
      else
       some (bX.mk 0 4294967295)
     else
      if a0 == 15 then
       (xF a1 a2).bind λx13=>
       some x13
      else
       if a0 == 16 then
        gL ((max a2.rM 1) ≠ 0) <|
        gL ((max a2.BF 1) ≠ 0) <|
        some (bX.mk (u32.wrap (a1.BF.tdiv (max a2.rM 1))) (u32.wrap (a1.rM.tdiv (max a2.BF 1))))
       else
        if a0 == 17 then
         some (bX.mk 0 (min a1.rM (u32.wrap ((max a2.rM 1) - 1))))
        else
         if a0 == 11 then
          some (bX.mk 0 a1.rM)
         else
          some (bX.mk 0 4294967295)
def nR (sS:aN->(List Int)->(List Int)->Option bX) (n:Nat) (a0:aN) (a1:(List Int)) (a2:(List Int)):Option bX:=
 if a0.iD == 1 then
  some (bX.mk a0.N_ a0.N_)
 else
  if a0.iD == 2 then
   (Eh a1 a0.N_ 0).bind λx5=>
   (Eh a2 a0.N_ 4294967295).bind λx6=>
   some (bX.mk x5 x6)
  else
   if a0.iD == 3 then
    some (bX.mk 0 4294967295)
   else
    if a0.iD == 4 then
     some (bX.mk 0 4294967295)
    else
     (bM a0.aP 0).bind λx11=>
     (sS x11 a1 a2).bind λx12=>
     (bM a0.aP 1).bind λx13=>
     (sS x13 a1 a2).bind λx14=>
     (wI a0.iD x12 x14).bind λx15=>
     some x15
def tD:Nat->aN->(List Int)->(List Int)->Option bX
 | 0=>λ_ _ _=>none
 | n+1=>nR (tD n) n
def Bp (n:Nat) (a0:aN) (a1:(List Int)) (a2:(List Int)):Option (Int × Int):=
 (tD n a0 a1 a2).bind λx2=>
 some (x2.BF,x2.rM)
def gI (n:Nat) (a0:bH) (a1:aF):Option (Int × Int):=
 (pF n a0 a1).bind λx3=>
 if x3.2 != 0 then
  some (0,4294967295)
 else
  (Bp n x3.1 a0.tT a0.oO).bind λx7=>
  some (x7.1,x7.2)
def lG (n:Nat) (a0:aT) (a1:aC):Option aT:=
 (bM a1.aP 0).bind λx2=>
 (gI n a0.c_ x2).bind λx3=>
 (bM a1.aP 1).bind λx10=>
 (gI n a0.c_ x10).bind λx11=>
 (Ei (i64.wrap (4+(a0.c_.gW.length:Int)))).bind λx18=>
 (bM a0.c_.bP a1.gB).bind λx19=>
 gL (a0.c_.gW.length+[a1.gB].length<=1073741824) <|
 gL (a0.c_.tT.length+[x3.1].length<=1073741824) <|
 gL (a0.c_.oO.length+[(max x3.1 (u32.wrap ((max x11.2 1) - 1)))].length<=1073741824) <|
 some ({ a0 with c_:=(bH.mk (a0.c_.bP.set a1.gB.toNat x18) (a0.c_.gW++[a1.gB]) (a0.c_.tT++[x3.1]) (a0.c_.oO++[(max x3.1 (u32.wrap ((max x11.2 1) - 1)))])) }:aT)
@[go_sem] def mN (n:Nat) (x11:aC):Nat->Int->aT->Option aT
 | 0,_,_=>none
 | c21+1,v18,v19=>
   if decide (v18<(x11.aP.length:Int)) then
    ((bM x11.aP v18).bind λx27=>
      (lH n v19 x27).bind λx33=>
      (if decide (x11.iD=([108,101,116]:cJ)) then
         some true
        else
         if decide (x11.iD=([105,102]:cJ)) then
          some true
         else
          if decide (x11.iD=([102,111,114]:cJ)) then
           some true
          else
           if decide (x11.iD=([112,117,116]:cJ)) then
            some (v18 == 0)
           else
            some false).bind λy35=>
      if y35 then
       (lF n x33 x27).bind λx44=>
       if decide (x11.iD=([108,101,116]:cJ)) then
        (bM x44.2.c_.bP x11.gB).bind λx48=>
        some ({ x44.2 with c_:=({ x44.2.c_ with bP:=(x44.2.c_.bP.set x11.gB.toNat x44.1) }:bH) }:aT)
       else
        some x44.2
      else
       some x33).bind λy26=>
    mN n x11 c21 (i64.wrap (v18+1)) y26
   else
    some v19
@[go_sem] def fY (dN:aT->(List aC)->Option aT) (n:Nat) (a1:(List aC)):Nat->Int->aT->Option (aT ⊕ aT)
 | 0,_,_=>none
 | c5+1,v2,v3=>
   if decide (v2<(a1.length:Int)) then
    ((bM a1 v2).bind λx11=>
      (mN n x11 n 0 v3).bind λy20=>
      (if y20.e_ == 0 then
         some (decide (x11.iD=([102,111,114]:cJ)))
        else
         some false).bind λy79=>
      if y79 then
       (lG n y20 x11).bind λx85=>
       if x85.e_ != 0 then
        some (.inr x85)
       else
        (dN x85 x11.bY).bind λx88=>
        (dN x88 x11.gT).bind λx90=>
        some (.inl x90)
      else
       if y20.e_ != 0 then
        some (.inr y20)
       else
        (dN y20 x11.bY).bind λx93=>
        (dN x93 x11.gT).bind λx95=>
        some (.inl x95):Option (aT ⊕ aT)).bind λy10=>
    y10.elim (λy10a=>
     fY dN n a1 c5 (i64.wrap (v2+1)) y10a) (λy10a=>
     some (.inr y10a))
   else
    some (.inl v3)
def nH (dN:aT->(List aC)->Option aT) (n:Nat) (a0:aT) (a1:(List aC)):Option aT:=
 (fY dN n a1 n 0 a0).bind λy4=>
 y4.elim (λy4a=>
  some y4a) (λy4a=>
  some y4a)
def fO:Nat->aT->(List aC)->Option aT
 | 0=>λ_ _=>none
 | n+1=>nH (fO n) n
@[go_sem] def rX (a0:aR):Nat->Int->aT->Option aT
 | 0,_,_=>none
 | c29+1,v26,v27=>
   if decide (v26<((a0.aW.take a0.bC.toNat).length:Int)) then
    ((bM (a0.aW.take a0.bC.toNat) v26).bind λx35=>
      if x35.bS == 1 then
       (Ei v26).bind λx42=>
       (bM v27.c_.bP v26).bind λx43=>
       some ({ v27 with c_:=({ v27.c_ with bP:=(v27.c_.bP.set v26.toNat x42) }:bH) }:aT)
      else
       some v27).bind λy34=>
    rX a0 c29 (i64.wrap (v26+1)) y34
   else
    some v27
def yE (n:Nat) (a0:aR):Option (bH × Int):=
 (if decide (4<a0.bC) then
    some true
   else
    (wT n a0.bY).bind λx5=>
    some (decide (250<x5))).bind λy3=>
 if y3 then
  some ((bH.mk [] [] [] []),136)
 else
  (tA [4294967295] 4).bind λx11=>
  gL (0<=(a0.aW.length:Int)/\(a0.aW.length:Int)<=1073741824) <|
  gL (0<=a0.bC/\a0.bC<=(a0.aW.length:Int)) <|
  (rX a0 n 0 (aT.mk (bH.mk (List.replicate a0.aW.length aN.Z) [] [0,0,0,0] x11) 0)).bind λy28=>
  (fO n y28 a0.bY).bind λx60=>
  if x60.e_ != 0 then
   some ((bH.mk [] [] [] []),x60.e_)
  else
   some (x60.c_,0)
def mX (n:Nat) (a0:cJ) (a1:Int):Option (aR × bH × Bool):=
 if decide (2000<(a0.length:Int)) then
  some ((aR.mk [] false 0 0 [] []),(bH.mk [] [] [] []),false)
 else
  (Av n a0).bind λx4=>
  if x4.2.1 != 0 then
   some ((aR.mk [] false 0 0 [] []),(bH.mk [] [] [] []),false)
  else
   (wS n x4.1 a1).bind λx8=>
   if x8.2 != 0 then
    some ((aR.mk [] false 0 0 [] []),(bH.mk [] [] [] []),false)
   else
    (yE n x8.1).bind λx12=>
    some (x8.1,x12.1,(x12.2 == 0))
def lE (a0:eJ) (a1:Int):Option (Int × eJ):=
 if a1 == 0 then
  some ((-1:Int),a0)
 else
  some (a0.fK,(eJ.mk (i64.wrap (a0.fK+(i64.wrap (4*a1))))))
def zM (a0:aR) (a1:bH) (a2:Int):Option Int:=
 (bM a0.aW a2).bind λx3=>
 (if x3.bS == 1 then
    (bM a1.bP a2).bind λx11=>
    some (x11.iD == 1)
   else
    some false).bind λy9=>
 if y9 then
  some 0
 else
  if x3.bS == 3 then
   some 2
  else
   (if x3.bS == 4 then
      some (decide (a0.bC<=a2))
     else
      some false).bind λy21=>
   if y21 then
    some x3.pI
   else
    some 1
def zN (a0:aR):Option Int:=
 if a0.bU == 2 then
  some 1
 else
  if a0.bU == 3 then
   some 2
  else
   some 0
@[go_sem] def Bb (a1:bH):Nat->Int->eJ->cQ->Option (eJ × cQ)
 | 0,_,_,_=>none
 | c28+1,v24,v25,v26=>
   if decide (v24<(a1.gW.length:Int)) then
    (lE v25 1).bind λx33=>
    gL (v26.ES.length+[x33.1].length<=1073741824) <|
    Bb a1 c28 (i64.wrap (v24+1)) x33.2 ({ v26 with ES:=(v26.ES++[x33.1]) }:cQ)
   else
    some (v25,v26)
@[go_sem] def Bc (a0:aR) (a1:bH):Nat->Int->eJ->cQ->Option (eJ × cQ)
 | 0,_,_,_=>none
 | c11+1,v7,v8,v9=>
   if decide (v7<(a0.aW.length:Int)) then
    (zM a0 a1 v7).bind λx16=>
    (lE v8 x16).bind λx17=>
    gL (v9.sL.length+[x17.1].length<=1073741824) <|
    Bc a0 a1 c11 (i64.wrap (v7+1)) x17.2 ({ v9 with sL:=(v9.sL++[x17.1]) }:cQ)
   else
    some (v8,v9)
def zO (n:Nat) (a0:aR) (a1:bH):Option (cQ × Int):=
 (Bc a0 a1 n 0 (eJ.mk 0) (cQ.mk [] [] 0 0)).bind λy10=>
 (Bb a1 n 0 y10.1 y10.2).bind λy52=>
 (zN a0).bind λx68=>
 (lE y52.1 x68).bind λx69=>
 if decide (1016<x69.2.fK) then
  some ((cQ.mk [] [] 0 0),160)
 else
  some (({ y52.2 with bU:=x69.1,LQ:=x69.2.fK }:cQ),0)
def lN (n:Nat):Option Bool:=
 (mX n ([102,110,32,102,40,97,58,32,91,52,93,44,32,122,58,32,117,54,52,44,32,112,58,32,112,117,98,41,32,123,32,97,114,114,32,116,91,51,93,59,32,125]:cJ) 0).bind λx1=>
 (zO n x1.1 x1.2.1).bind λx5=>
 (if x1.2.2=true then
    if x5.2 == 0 then
     if (x5.1.sL.length:Int) == 4 then
      (bM x5.1.sL 0).bind λx12=>
      if x12 == 0 then
       (bM x5.1.sL 1).bind λx19=>
       if x19 == 4 then
        (bM x5.1.sL 2).bind λx26=>
        if x26 == 12 then
         (bM x5.1.sL 3).bind λx33=>
         if x33 == 16 then
          if x5.1.LQ == 28 then
           some (x5.1.bU == (-1:Int))
          else
           some false
         else
          some false
        else
         some false
       else
        some false
      else
       some false
     else
      some false
    else
     some false
   else
    some false).bind λy8=>
 some y8
def uA (a0:aR) (a1:bH) (a2:Int):Option Int:=
 (bM a0.aW a2).bind λx3=>
 (if x3.bS == 1 then
    if decide (a2<(a1.bP.length:Int)) then
     (bM a1.bP a2).bind λx12=>
     some (x12.iD == 1)
    else
     some false
   else
    some false).bind λy9=>
 if y9 then
  some 0
 else
  if x3.bS == 3 then
   some 2
  else
   (if x3.bS == 4 then
      some (decide (a0.bC<=a2))
     else
      some false).bind λy22=>
   if y22 then
    some x3.pI
   else
    some 1
@[go_sem] def qF (x4:(aR × bH × Bool)):Nat->Int->(List Int)->Int->Option (Int × (List Int))
 | 0,_,_,_=>none
 | c17+1,v13,v14,v15=>
   if decide (v15<(x4.1.aW.length:Int)) then
    ((uA x4.1 x4.2.1 v15).bind λx23=>
      if x23 == 0 then
       gL (v14.length+[(-1:Int)].length<=1073741824) <|
       some (v13,(v14++[(-1:Int)]))
      else
       gL (v14.length+[v13].length<=1073741824) <|
       some ((i64.wrap (v13+(i64.wrap (4*x23)))),(v14++[v13]))).bind λy22=>
    qF x4 c17 y22.1 y22.2 (i64.wrap (v15+1))
   else
    some (v13,v14)
@[go_sem] def sO (a0:cQ) (v8:Int):Nat->(List bR)->Int->Int->Option ((List bR) × Int)
 | 0,_,_,_=>none
 | c28+1,v24,v25,v26=>
   if decide (v26<2) then
    (((bM a0.sL v8).bind fun x35=>
        if decide (0<=x35) then
         some (decide (v25<4))
        else
         some false).bind λy34=>
      if y34 then
       (bM a0.sL v8).bind λx45=>
       gL (v24.length+[(bR.mk v25 (i64.wrap (x45+(i64.wrap (4*v26)))))].length<=1073741824) <|
       some ((v24++[(bR.mk v25 (i64.wrap (x45+(i64.wrap (4*v26)))))]),(i64.wrap (v25+1)))
      else
       some (v24,(i64.wrap (v25+1)))).bind λy33=>
    sO a0 v8 c28 y33.1 y33.2 (i64.wrap (v26+1))
   else
    some (v24,v25)
@[go_sem] def sN (a0:cQ) (v8:Int):Nat->(List bR)->Int->Int->Option ((List bR) × Int)
 | 0,_,_,_=>none
 | c61+1,v57,v58,v59=>
   if decide (v59<1) then
    (((bM a0.sL v8).bind fun x68=>
        if decide (0<=x68) then
         some (decide (v58<4))
        else
         some false).bind λy67=>
      if y67 then
       (bM a0.sL v8).bind λx78=>
       gL (v57.length+[(bR.mk v58 (i64.wrap (x78+(i64.wrap (4*v59)))))].length<=1073741824) <|
       some ((v57++[(bR.mk v58 (i64.wrap (x78+(i64.wrap (4*v59)))))]),(i64.wrap (v58+1)))
      else
       some (v57,(i64.wrap (v58+1)))).bind λy66=>
    sN a0 v8 c61 y66.1 y66.2 (i64.wrap (v59+1))
   else
    some (v57,v58)
@[go_sem] def sP (n:Nat) (a1:aR) (a0:cQ):Nat->(List bR)->Int->Int->Option (List bR)
 | 0,_,_,_=>none
 | c10+1,v6,v7,v8=>
   if decide (v8<((a1.aW.take a1.bC.toNat).length:Int)) then
    ((bM (a1.aW.take a1.bC.toNat) v8).bind λx16=>
      if x16.bS == 3 then
       (sO a0 v8 n v6 (i64.wrap (v7+(v7.tmod 2))) 0).bind λy27=>
       some (y27.1,y27.2)
      else
       (sN a0 v8 n v6 v7 0).bind λy60=>
       some (y60.1,y60.2)).bind λy15=>
    sP n a1 a0 c10 y15.1 y15.2 (i64.wrap (v8+1))
   else
    some v6
def qY (n:Nat) (a0:cQ) (a1:aR):Option (List bR):=
 gL (0<=a1.bC/\a1.bC<=(a1.aW.length:Int)) <|
 (sP n a1 a0 n [] 0 0).bind λy9=>
 some y9
@[go_sem] def dV (x9:(cQ × Int)) (v21:Int):Nat->(List bR)->Int->Int->Option ((List bR) × Int)
 | 0,_,_,_=>none
 | c41+1,v37,v38,v39=>
   if decide (v39<2) then
    ((if decide (v38<4) then
          (bM x9.1.sL v21).bind λx49=>
          some (decide (0<=x49))
       else
        some false).bind λy47=>
      if y47 then
       (bM x9.1.sL v21).bind λx58=>
       gL (v37.length+[(bR.mk v38 (i64.wrap (x58+(i64.wrap (4*v39)))))].length<=1073741824) <|
       some ((v37++[(bR.mk v38 (i64.wrap (x58+(i64.wrap (4*v39)))))]),(i64.wrap (v38+1)))
      else
       some (v37,(i64.wrap (v38+1)))).bind λy46=>
    dV x9 v21 c41 y46.1 y46.2 (i64.wrap (v39+1))
   else
    some (v37,v38)
@[go_sem] def gX (x9:(cQ × Int)) (v21:Int):Nat->(List bR)->Int->Int->Option ((List bR) × Int)
 | 0,_,_,_=>none
 | c107+1,v103,v104,v105=>
   if decide (v105<1) then
    ((if decide (v104<4) then
          (bM x9.1.sL v21).bind λx115=>
          some (decide (0<=x115))
       else
        some false).bind λy113=>
      if y113 then
       (bM x9.1.sL v21).bind λx124=>
       gL (v103.length+[(bR.mk v104 (i64.wrap (x124+(i64.wrap (4*v105)))))].length<=1073741824) <|
       some ((v103++[(bR.mk v104 (i64.wrap (x124+(i64.wrap (4*v105)))))]),(i64.wrap (v104+1)))
      else
       some (v103,(i64.wrap (v104+1)))).bind λy112=>
    gX x9 v21 c107 y112.1 y112.2 (i64.wrap (v105+1))
   else
    some (v103,v104)
@[go_sem] def mU (v19:(List bR)) (x138:(List bR)):Nat->Int->Option (Unit ⊕ Bool)
 | 0,_=>none
 | c153+1,v151=>
   if decide (v151<(v19.length:Int)) then
    (bM x138 v151).bind λx158=>
    (bM v19 v151).bind λx159=>
    if !((x158.Reg_ == x159.Reg_) && (x158.sL == x159.sL)) then
     some (.inr false)
    else
     mU v19 x138 c153 (i64.wrap (v151+1))
   else
    some (.inl ())
@[go_sem] def mV (n:Nat) (x4:(aR × bH × Bool)) (x9:(cQ × Int)):Nat->(List bR)->Int->Int->Option ((List bR) × Int)
 | 0,_,_,_=>none
 | c23+1,v19,v20,v21=>
   if decide (v21<(min x4.1.bC (x4.1.aW.length:Int))) then
    ((bM x4.1.aW v21).bind λx29=>
      if x29.bS == 3 then
       if (v20.tmod 2) == 1 then
        (dV x9 v21 n v19 (i64.wrap (v20+1)) 0).bind λy40=>
        some (y40.1,y40.2)
       else
        (dV x9 v21 n v19 v20 0).bind λy73=>
        some (y73.1,y73.2)
      else
       (gX x9 v21 n v19 v20 0).bind λy106=>
       some (y106.1,y106.2)).bind λy28=>
    mV n x4 x9 c23 y28.1 y28.2 (i64.wrap (v21+1))
   else
    some (v19,v20)
def lV (n:Nat) (a0:cJ) (a1:Int):Option Bool:=
 (lN n).bind λx1=>
 if !x1 then
  some false
 else
  (mX n a0 a1).bind λx4=>
  if !x4.2.2 then
   some true
  else
   (zO n x4.1 x4.2.1).bind λx9=>
   (if x9.2 != 0 then
      some true
     else
      some ((x9.1.sL.length:Int) != (x4.1.aW.length:Int))).bind λy12=>
   if y12 then
    some (x9.2 == 160)
   else
    (mV n x4 x9 n [] 0 0).bind λy22=>
    (qY n x9.1 x4.1).bind λx169=>
    (if (x169.length:Int) != (y22.1.length:Int) then
       some true
      else
       if x4.1.dC=true then
        if decide (4<y22.2) then
         some true
        else
         (gZ n x4.1).bind λx175=>
         some (y22.2 != x175)
       else
        some false).bind λy171=>
    if y171 then
     some false
    else
     (mU y22.1 x169 n 0).bind λy183=>
     y183.elim (λy183a=>
      some true) (λy183a=>
      some y183a)
