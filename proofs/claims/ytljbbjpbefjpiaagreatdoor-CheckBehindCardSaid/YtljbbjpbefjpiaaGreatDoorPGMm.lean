import Derived.Test.YtljbbjpbefjpiaaGreatDoorPS3
namespace Go.Proofs.YtljbbjpbefjpiaaGreatDoor.Abs
open IntKind (i64 u32 u64 u8)
open Go.RowKit
set_option linter.all false
structure bI where
 Nq:cB
 NI:Int
def bI.C (x:bI):List V:=[.lit (.string (bs x.Nq)),.lit (.int .i64 x.NI)]
@[go_sem] theorem bI.C_eq (x:bI):bI.C x=[.lit (.string (bs x.Nq)),.lit (.int .i64 x.NI)]:=rI rfl
structure dT where
 bT:Int
 eO:Int
 bQ:cB
 kL:Int
def dT.C (x:dT):List V:=[.lit (.int .i64 x.bT),.lit (.int .i64 x.eO),.lit (.string (bs x.bQ)),.lit (.int .u32 x.kL)]
@[go_sem] theorem dT.C_eq (x:dT):dT.C x=[.lit (.int .i64 x.bT),.lit (.int .i64 x.eO),.lit (.string (bs x.bQ)),.lit (.int .u32 x.kL)]:=rI rfl
structure aB where
 bT:Int
 eO:Int
 bQ:cB
 kL:Int
 aL:(List aB)
mutual
def aB.C:aB->List V
 | ⟨a0,a1,a2,a3,a4⟩=>[.lit (.int .i64 a0),.lit (.int .i64 a1),.lit (.string (bs a2)),.lit (.int .u32 a3),.list .none (aB.CL a4)]
def aB.CL:List aB->List (List V)
 | []=>[]
 | x::l=>aB.C x::aB.CL l
end
theorem aB.CL_eq (l:List aB):aB.CL l=l.map aB.C:=by
 induction l with
 | nil=>rfl
 | cons x l ih=>rw [aB.CL,ih];rfl
@[go_sem] theorem aB.C_eq (x:aB):aB.C x=[.lit (.int .i64 x.bT),.lit (.int .i64 x.eO),.lit (.string (bs x.bQ)),.lit (.int .u32 x.kL),.list .none (x.aL.map aB.C)]:=by
 cases x;simp only [aB.C,aB.CL_eq]
structure aA where
 l_:(List dT)
 fA:Int
 nV:Int
 e_:Int
 yW:Int
def aA.C (x:aA):List V:=[.list .none (x.l_.map dT.C),.lit (.int .i64 x.fA),.lit (.int .i64 x.nV),.lit (.int .i64 x.e_),.lit (.int .i64 x.yW)]
@[go_sem] theorem aA.C_eq (x:aA):aA.C x=[.list .none (x.l_.map dT.C),.lit (.int .i64 x.fA),.lit (.int .i64 x.nV),.lit (.int .i64 x.e_),.lit (.int .i64 x.yW)]:=rI rfl
structure bB where
 iS:cB
 bT:Int
 rR:Int
def bB.C (x:bB):List V:=[.lit (.string (bs x.iS)),.lit (.int .i64 x.bT),.lit (.int .i64 x.rR)]
@[go_sem] theorem bB.C_eq (x:bB):bB.C x=[.lit (.string (bs x.iS)),.lit (.int .i64 x.bT),.lit (.int .i64 x.rR)]:=rI rfl
structure aI where
 sT:cB
 dQ:Int
 N_:Int
 rQ:Int
 aL:(List aI)
 eO:Int
mutual
def aI.C:aI->List V
 | ⟨a0,a1,a2,a3,a4,a5⟩=>[.lit (.string (bs a0)),.lit (.int .i64 a1),.lit (.int .u32 a2),.lit (.int .i64 a3),.list .none (aI.CL a4),.lit (.int .i64 a5)]
def aI.CL:List aI->List (List V)
 | []=>[]
 | x::l=>aI.C x::aI.CL l
end
theorem aI.CL_eq (l:List aI):aI.CL l=l.map aI.C:=by
 induction l with
 | nil=>rfl
 | cons x l ih=>rw [aI.CL,ih];rfl
@[go_sem] theorem aI.C_eq (x:aI):aI.C x=[.lit (.string (bs x.sT)),.lit (.int .i64 x.dQ),.lit (.int .u32 x.N_),.lit (.int .i64 x.rQ),.list .none (x.aL.map aI.C),.lit (.int .i64 x.eO)]:=by
 cases x;simp only [aI.C,aI.CL_eq]
structure aG where
 sT:cB
 rQ:Int
 oL:Int
 aL:(List aI)
 eG:(List aG)
 pZ:(List aG)
 eO:Int
mutual
def aG.C:aG->List V
 | ⟨a0,a1,a2,a3,a4,a5,a6⟩=>[.lit (.string (bs a0)),.lit (.int .i64 a1),.lit (.int .i64 a2),.list .none (a3.map aI.C),.list .none (aG.CL a4),.list .none (aG.CL a5),.lit (.int .i64 a6)]
def aG.CL:List aG->List (List V)
 | []=>[]
 | x::l=>aG.C x::aG.CL l
end
theorem aG.CL_eq (l:List aG):aG.CL l=l.map aG.C:=by
 induction l with
 | nil=>rfl
 | cons x l ih=>rw [aG.CL,ih];rfl
@[go_sem] theorem aG.C_eq (x:aG):aG.C x=[.lit (.string (bs x.sT)),.lit (.int .i64 x.rQ),.lit (.int .i64 x.oL),.list .none (x.aL.map aI.C),.list .none (x.eG.map aG.C),.list .none (x.pZ.map aG.C),.lit (.int .i64 x.eO)]:=by
 cases x;simp only [aG.C,aG.CL_eq]
structure aQ where
 iS:cB
 jT:Bool
 cW:Int
 bS:Int
 bW:(List bB)
 eG:(List aG)
def aQ.C (x:aQ):List V:=[.lit (.string (bs x.iS)),.lit (.bool x.jT),.lit (.int .i64 x.cW),.lit (.int .i64 x.bS),.list .none (x.bW.map bB.C),.list .none (x.eG.map aG.C)]
@[go_sem] theorem aQ.C_eq (x:aQ):aQ.C x=[.lit (.string (bs x.iS)),.lit (.bool x.jT),.lit (.int .i64 x.cW),.lit (.int .i64 x.bS),.list .none (x.bW.map bB.C),.list .none (x.eG.map aG.C)]:=rI rfl
structure cY where
 aS:(List aQ)
def cY.C (x:cY):List V:=[.list .none (x.aS.map aQ.C)]
@[go_sem] theorem cY.C_eq (x:cY):cY.C x=[.list .none (x.aS.map aQ.C)]:=rI rfl
def cY.Z:cY:=⟨[]⟩
structure aF where
 e_:Int
 yW:Int
structure aD where
 p_:cY
 f_:Int
 aZ:List Int
 bP:List (List Int)
 fA:Int
def aD.Z:aD:=⟨cY.Z,-1,[],[],0⟩
def pN (F fp S C:V) (x:aD) (y:aF):List V:=[F,fp,S,C,.lit (.int .i64 x.fA),.lit (.int .i64 y.e_),.lit (.int .i64 y.yW)]
@[go_sem] theorem ckC_eq {F fp S C:V} {x:aD} {y:aF}:pN F fp S C x y=[F,fp,S,C,.lit (.int .i64 x.fA),.lit (.int .i64 y.e_),.lit (.int .i64 y.yW)]:=rI rfl
def eY:List cB:=[[45,62],[46,46],[61,61],[60,60,60],[60,60],[62,62],[60],[40],[41],[123],[125],[91],[93],[44],[59],[58],[61],[43],[45],[42],[47],[37],[38],[124],[94],[126]]
@[go_sem] theorem Qg:(cA cS eY).length=26:=by kernel_rfl
@[go_sem] theorem Pf:(cA cS eY).take 26=(cA cS eY):=by kernel_rfl
def cE:List cB:=[[102,110],[101,120,112,111,114,116],[108,101,116],[118,97,114],[97,114,114],[105,102],[101,108,115,101],[102,111,114],[105,110],[114,101,116,117,114,110],[112,117,98],[117,51,50],[117,54,52]]
@[go_sem] theorem Nv:(cA cS cE).length=13:=by kernel_rfl
@[go_sem] theorem LG:AC 1 13 (cA cS cE)=cE.map cS:=rI rfl
def cQ:List (List cB):=[[[124],[],[]],[[94],[],[]],[[38],[],[]],[[61,61],[60],[]],[[60,60],[62,62],[60,60,60]],[[43],[45],[]],[[42],[47],[37]]]
def cV:List bI:=[(bI.mk [115,101,108,101,99,116] 3),(bI.mk [108,111,110,103] 1),(bI.mk [108,111] 1),(bI.mk [104,105] 1),(bI.mk [119,105,100,101] 2)]
@[go_sem] theorem Nw:(cA bI.C cV).length=10:=by kernel_rfl
@[go_sem] theorem Ms:(cA bI.C cV).take 10=(cA bI.C cV):=by kernel_rfl
@[go_sem] theorem Lb:(cA bI.C cV).map V.shared=(cA bI.C cV):=rI rfl
def yR (a0:Int):Option Bool:=
 (if a0 == 32 then
    some true
   else
    if a0 == 9 then
     some true
    else
     if a0 == 13 then
      some true
     else
      some (a0 == 10)).bind λy1=>
 some y1
def gM (a0:cB) (a1:cB):Option Bool:=
 (if decide ((a1.length:Int)<=(a0.length:Int)) then
    iU (0<=(a1.length:Int)/\(a1.length:Int)<=(a0.length:Int)) <|
    some (decide ((a0.take (a1.length:Int).toNat)=a1))
   else
    some false).bind λy1=>
 some y1
def nX (a0:cB) (a1:cB):Option Bool:=
 (gM a0 a1).bind λx1=>
 some x1
def oD (a0:cB) (a1:Int):Option Int:=some (Lib.indexByte a0 a1.toNat.toUInt8)
def mP (a0:cB) (a1:Int):Option Int:=
 (oD a0 a1).bind λx1=>
 some x1
def nW (a0:cB) (a1:Int):Option Int:=
 (mP a0 a1).bind λx1=>
 some x1
@[go_sem] def sY (a0:cB):Nat->Int->Option (Int ⊕ Int)
 | 0,_=>none
 | c4+1,v2=>
   if decide (v2<(a0.length:Int)) then
    (bY a0 v2).bind λx9=>
    (yR (x9.toNat:Int)).bind λx10=>
    if x10 then
     sY a0 c4 (i64.wrap (v2+1))
    else
     iU (0<=v2/\v2<=(a0.length:Int)) <|
     (nX (a0.drop v2.toNat) ([47,47]:cB)).bind λx17=>
     if x17 then
      iU (0<=v2/\v2<=(a0.length:Int)) <|
      (nW (a0.drop v2.toNat) 10).bind λx22=>
      if decide (x22<0) then
       some (.inr (a0.length:Int))
      else
       sY a0 c4 (i64.wrap (v2+x22))
     else
      some (.inr v2)
   else
    some (.inl v2)
def tY (n:Nat) (a0:cB) (a1:Int):Option Int:=
 (sY a0 n a1).bind λy3=>
 y3.elim (λy3a=>
  some y3a) (λy3a=>
  some y3a)
def uK (a0:Int):Option Bool:=
 (if decide (97<=a0) then
    if decide (a0<=122) then
     some true
    else
     some (a0 == 95)
   else
    some (a0 == 95)).bind λy1=>
 some y1
def wU (a0:Int):Option Bool:=
 (if decide (48<=a0) then
    some (decide (a0<=57))
   else
    some false).bind λy1=>
 some y1
@[go_sem] def Az (a0:cB):Nat->Int->Option (Unit ⊕ cB)
 | 0,_=>none
 | c4+1,v2=>
   if decide (v2<(a0.length:Int)) then
    ((bY a0 v2).bind λx10=>
      (uK (x10.toNat:Int)).bind λx11=>
      if !x11 then
       (wU (x10.toNat:Int)).bind λx18=>
       some (!x18)
      else
       some false).bind λy9=>
    if y9 then
     iU (0<=v2/\v2<=(a0.length:Int)) <|
     some (.inr (a0.take v2.toNat))
    else
     Az a0 c4 (i64.wrap (v2+1))
   else
    some (.inl ())
def zR (n:Nat) (a0:cB):Option cB:=
 (Az a0 n 0).bind λy3=>
 y3.elim (λy3a=>
  some a0) (λy3a=>
  some y3a)
def kK (a0:cB) (a1:cB):Option (cB × Bool):=
 (gM a0 a1).bind λx1=>
 if !x1 then
  some (a0,false)
 else
  iU (0<=(a1.length:Int)/\(a1.length:Int)<=(a0.length:Int)) <|
  some ((a0.drop (a1.length:Int).toNat),true)
def pD (a0:cB) (a1:cB):Option (cB × Bool):=
 (kK a0 a1).bind λx1=>
 some (x1.1,x1.2)
@[go_sem] def yM (x1:(cB × Bool)):Nat->Int->Int->Option (Int ⊕ (Int × Bool))
 | 0,_,_=>none
 | c8+1,v5,v6=>
   if decide (v6<(x1.1.length:Int)) then
    iU ((0:Int)<=16/\16<=(([48,49,50,51,52,53,54,55,56,57,97,98,99,100,101,102]:cB).length:Int)) <|
    (bY x1.1 v6).bind λx13=>
    (nW (([48,49,50,51,52,53,54,55,56,57,97,98,99,100,101,102]:cB).take (16:Int).toNat) (x13.toNat:Int)).bind λx14=>
    (if decide (x14<0) then
       some true
      else
       some (decide (4294967295<(i64.wrap ((i64.wrap (v5*16))+x14))))).bind λy22=>
    if y22 then
     some (.inr (0,false))
    else
     yM x1 c8 (i64.wrap ((i64.wrap (v5*16))+x14)) (i64.wrap (v6+1))
   else
    some (.inl v5)
@[go_sem] def tE (a0:cB):Nat->Int->Int->Option (Int ⊕ (Int × Bool))
 | 0,_,_=>none
 | c32+1,v29,v30=>
   if decide (v30<(a0.length:Int)) then
    iU ((0:Int)<=10/\10<=(([48,49,50,51,52,53,54,55,56,57,97,98,99,100,101,102]:cB).length:Int)) <|
    (bY a0 v30).bind λx37=>
    (nW (([48,49,50,51,52,53,54,55,56,57,97,98,99,100,101,102]:cB).take (10:Int).toNat) (x37.toNat:Int)).bind λx38=>
    (if decide (x38<0) then
       some true
      else
       some (decide (4294967295<(i64.wrap ((i64.wrap (v29*10))+x38))))).bind λy46=>
    if y46 then
     some (.inr (0,false))
    else
     tE a0 c32 (i64.wrap ((i64.wrap (v29*10))+x38)) (i64.wrap (v30+1))
   else
    some (.inl v29)
def uW (n:Nat) (a0:cB):Option (Int × Bool):=
 (pD a0 ([48,120]:cB)).bind λx1=>
 if x1.2=true then
  (yM x1 n 0 0).bind λy7=>
  y7.elim (λy7a=>
   some ((u32.wrap y7a),(decide (x1.1 ≠ ([]:cB))))) (λy7a=>
   some y7a)
 else
  (tE a0 n 0 0).bind λy31=>
  y31.elim (λy31a=>
   some ((u32.wrap y31a),(decide (a0 ≠ ([]:cB))))) (λy31a=>
   some y31a)
@[go_sem] def AA (a0:cB):Nat->Int->Option (Unit ⊕ cB)
 | 0,_=>none
 | c4+1,v2=>
   if decide (v2<26) then
    (bY eY v2).bind λx9=>
    (nX a0 x9).bind λx17=>
    if x17 then
     some (.inr x9)
    else
     AA a0 c4 (i64.wrap (v2+1))
   else
    some (.inl ())
def BD (n:Nat) (a0:cB):Option cB:=
 (AA a0 n 0).bind λy3=>
 y3.elim (λy3a=>
  some ([]:cB)) (λy3a=>
  some y3a)
def oZ (n:Nat) (a0:cB) (a1:Int):Option (dT × Int):=
 iU (0<=a1/\a1<=(a0.length:Int)) <|
 (zR n (a0.drop a1.toNat)).bind λx2=>
 (bY a0 a1).bind λx7=>
 (uK (x7.toNat:Int)).bind λx8=>
 if x8 then
  if decide (32<(x2.length:Int)) then
   some ((dT.mk 0 0 [] 0),102)
  else
   some ((dT.mk 1 a1 x2 0),0)
 else
  (wU (x7.toNat:Int)).bind λx16=>
  if x16 then
   (uW n x2).bind λx19=>
   if !x19.2 then
    some ((dT.mk 0 0 [] 0),101)
   else
    some ((dT.mk 2 a1 x2 x19.1),0)
  else
   iU (0<=a1/\a1<=(a0.length:Int)) <|
   (BD n (a0.drop a1.toNat)).bind λx22=>
   if decide (x22=([]:cB)) then
    some ((dT.mk 0 0 [] 0),100)
   else
    some ((dT.mk 3 a1 x22 0),0)
@[go_sem] def oU (n:Nat) (a0:cB):Nat->(List dT)->Int->Option ((List dT) ⊕ ((List dT) × Int × Int))
 | 0,_,_=>none
 | c8+1,v5,v6=>
   if decide (v6<(a0.length:Int)) then
    (oZ n a0 v6).bind λx13=>
    if x13.2 != 0 then
     some (.inr ([],x13.2,v6))
    else
     iU (v5.length+[x13.1].length<=1073741824) <|
     (tY n a0 (i64.wrap (v6+(x13.1.bQ.length:Int)))).bind λx20=>
     oU n a0 c8 (v5++[x13.1]) x20
   else
    some (.inl v5)
def mV (n:Nat) (a0:cB):Option ((List dT) × Int × Int):=
 if decide (65536<(a0.length:Int)) then
  some ([],161,0)
 else
  (tY n a0 0).bind λx2=>
  (oU n a0 n [] x2).bind λy7=>
  y7.elim (λy7a=>
   iU (y7a.length+[(dT.mk 4 (a0.length:Int) [] 0)].length<=1073741824) <|
   some ((y7a++[(dT.mk 4 (a0.length:Int) [] 0)]),0,0)) (λy7a=>
   some y7a)
def cG (a0:aA):Option dT:=
 (bY a0.l_ a0.fA).bind λx2=>
 some x2
def fF (a0:aA) (a1:Int):Option aA:=
 if a0.e_ == 0 then
  (cG a0).bind λx2=>
  some ({ a0 with e_:=a1,yW:=x2.eO }:aA)
 else
  some a0
def dR (a0:aA) (a1:Int):Option (aB × aA):=
 if decide (16384<(i64.wrap (a0.nV+1))) then
  (fF ({ a0 with nV:=(i64.wrap (a0.nV+1)) }:aA) 136).bind λx3=>
  (cG x3).bind λx5=>
  some ((aB.mk a1 x5.eO [] 0 []),x3)
 else
  (cG ({ a0 with nV:=(i64.wrap (a0.nV+1)) }:aA)).bind λx7=>
  some ((aB.mk a1 x7.eO [] 0 []),({ a0 with nV:=(i64.wrap (a0.nV+1)) }:aA))
@[go_sem] def iL (a0:(List cB)) (a1:cB):Nat->Int->Option (Unit ⊕ Int)
 | 0,_=>none
 | c4+1,v2=>
   if decide (v2<(a0.length:Int)) then
    (bY a0 v2).bind λx9=>
    if decide (a1=x9) then
     some (.inr v2)
    else
     iL a0 a1 c4 (i64.wrap (v2+1))
   else
    some (.inl ())
def jK (n:Nat) (a0:(List cB)) (a1:cB):Option Int:=
 (iL a0 a1 n 0).bind λy3=>
 y3.elim (λy3a=>
  some (-1:Int)) (λy3a=>
  some y3a)
def iM (n:Nat) (a0:(List cB)) (a1:cB):Option Bool:=
 (jK n a0 a1).bind λx1=>
 some (decide (0<=x1))
def rX (n:Nat) (a0:cB):Option Bool:=
 (iM n cE a0).bind λx1=>
 some x1
def fX (n:Nat) (a0:aA) (a1:cB):Option Bool:=
 (cG a0).bind λx1=>
 (if a0.e_ == 0 then
    if decide (x1.bQ=a1) then
     if x1.bT == 3 then
      some true
     else
      if x1.bT == 1 then
       (rX n a1).bind λx9=>
       some x9
      else
       some false
    else
     some false
   else
    some false).bind λy4=>
 some y4
def bE (n:Nat) (a0:aA) (a1:cB):Option (Bool × aA):=
 (fX n a0 a1).bind λx1=>
 if !x1 then
  some (false,a0)
 else
  some (true,({ a0 with fA:=(i64.wrap (a0.fA+1)) }:aA))
def aX (n:Nat) (a0:aA) (a1:cB):Option aA:=
 (bE n a0 a1).bind λx1=>
 if !x1.1 then
  (fF x1.2 110).bind λx4=>
  some x4
 else
  some x1.2
def dD (n:Nat) (a0:aA):Option (cB × aA):=
 (cG a0).bind λx1=>
 (if a0.e_ != 0 then
    some true
   else
    if x1.bT != 1 then
     some true
    else
     (rX n x1.bQ).bind λx7=>
     some x7).bind λy4=>
 if y4 then
  (fF a0 110).bind λx13=>
  some (([]:cB),x13)
 else
  some (x1.bQ,({ a0 with fA:=(i64.wrap (a0.fA+1)) }:aA))
def gG (a0:aA):Option (Int × aA):=
 (cG a0).bind λx1=>
 (if a0.e_ != 0 then
    some true
   else
    some (x1.bT != 2)).bind λy4=>
 if y4 then
  (fF a0 110).bind λx10=>
  some (0,x10)
 else
  some (x1.kL,({ a0 with fA:=(i64.wrap (a0.fA+1)) }:aA))
def iH (n:Nat) (a0:aA):Option (Int × aA):=
 (aX n a0 ([91]:cB)).bind λx1=>
 (gG x1).bind λx3=>
 (aX n x3.2 ([93]:cB)).bind λx5=>
 some (x3.1,x5)
def gC:List cB:=[([112,117,98]:cB),([117,51,50]:cB),([117,54,52]:cB)]
@[go_sem] def fJ (n:Nat):Nat->Int->aA->aB->aB->Option ((aA × aB × aB) ⊕ (aB × aA))
 | 0,_,_,_,_=>none
 | c15+1,v10,v11,v12,v13=>
   if decide (v10<3) then
    (bY gC v10).bind λx20=>
    (bE n v11 x20).bind λx29=>
    if x29.1=true then
     some (.inr (({ v13 with kL:=(u32.wrap (i64.wrap (1+v10))) }:aB),x29.2))
    else
     fJ n c15 (i64.wrap (v10+1)) x29.2 v12 v13
   else
    some (.inl (v11,v12,v13))
def eJ (n:Nat) (a0:aA):Option (aB × aA):=
 (dR a0 3).bind λx2=>
 (dD n x2.2).bind λx5=>
 (aX n x5.2 ([58]:cB)).bind λx7=>
 (fJ n n 0 x7 (aB.mk 0 0 [] 0 []) ({ x2.1 with bQ:=x5.1 }:aB)).bind λy14=>
 y14.elim (λy14a=>
  (dR y14a.1 14).bind λx37=>
  (iH n x37.2).bind λx40=>
  some (({ y14a.2.2 with kL:=4,aL:=[({ x37.1 with kL:=x40.1 }:aB)] }:aB),x40.2)) (λy14a=>
  some y14a)
@[go_sem] def dO (n:Nat):Nat->(List aB)->aA->Option ((List aB) × aA)
 | 0,_,_=>none
 | c11+1,v8,v9=>
   if v9.e_ == 0 then
    (eJ n v9).bind λx16=>
    iU (v8.length+[x16.1].length<=1073741824) <|
    (bE n x16.2 ([44]:cB)).bind λx21=>
    if !x21.1 then
     some ((v8++[x16.1]),x21.2)
    else
     dO n c11 (v8++[x16.1]) x21.2
   else
    some (v8,v9)
def cH (n:Nat) (a0:aA):Option ((List aB) × aA):=
 (aX n a0 ([40]:cB)).bind λx1=>
 (bE n x1 ([41]:cB)).bind λx3=>
 if x3.1=true then
  some ([],x3.2)
 else
  ((dO n n [] x3.2).bind λy10=>
    some (y10.1,y10.2)).bind λy6=>
  (aX n y6.2 ([41]:cB)).bind λx27=>
  some (y6.1,x27)
def iJ (a0:aA) (a1:Int):Option aA:=
 if decide (64<a1) then
  (fF a0 111).bind λx2=>
  some x2
 else
  some a0
@[go_sem] def gP (n:Nat) (x1:(List cB)) (a0:aA):Nat->Int->Option (Unit ⊕ cB)
 | 0,_=>none
 | c15+1,v13=>
   if decide (v13<3) then
    (bY x1 v13).bind λx20=>
    (if decide (x20 ≠ ([]:cB)) then
       (fX n a0 x20).bind λx31=>
       some x31
      else
       some false).bind λy29=>
    if y29 then
     some (.inr x20)
    else
     gP n x1 a0 c15 (i64.wrap (v13+1))
   else
    some (.inl ())
def iI (n:Nat) (a0:aA) (a1:Int):Option cB:=
 (bY cQ a1).bind λx1=>
 (gP n x1 a0 n 0).bind λy14=>
 y14.elim (λy14a=>
  some ([]:cB)) (λy14a=>
  some y14a)
@[go_sem] def cF (gA:aA->Int->Option (aB × aA)) (n:Nat) (a1:Int):Nat->(List aB)->aA->Option ((List aB) × aA)
 | 0,_,_=>none
 | c11+1,v8,v9=>
   if v9.e_ == 0 then
    (gA v9 a1).bind λx16=>
    iU (v8.length+[x16.1].length<=1073741824) <|
    (bE n x16.2 ([44]:cB)).bind λx21=>
    if !x21.1 then
     some ((v8++[x16.1]),x21.2)
    else
     cF gA n a1 c11 (v8++[x16.1]) x21.2
   else
    some (v8,v9)
def cK (gA:aA->Int->Option (aB × aA)) (n:Nat) (a0:aA) (a1:Int):Option ((List aB) × aA):=
 (aX n a0 ([40]:cB)).bind λx1=>
 (bE n x1 ([41]:cB)).bind λx3=>
 if x3.1=true then
  some ([],x3.2)
 else
  ((cF gA n a1 n [] x3.2).bind λy10=>
    some (y10.1,y10.2)).bind λy6=>
  (aX n y6.2 ([41]:cB)).bind λx27=>
  some (y6.1,x27)
def gI (dE:aA->Int->Int->Option (aB × aA)) (n:Nat) (a0:aA) (a1:Int):Option (aB × aA):=
 (dE a0 0 a1).bind λx2=>
 some (x2.1,x2.2)
@[go_sem] def cT (dE:aA->Int->Int->Option (aB × aA)) (n:Nat) (a1:Int) (a2:Int):Nat->cB->aA->aB->Option (aA × aB)
 | 0,_,_,_=>none
 | c15+1,v11,v12,v13=>
   if decide (v11 ≠ ([]:cB)) then
    (dR v12 19).bind λx20=>
    (aX n x20.2 v11).bind λx23=>
    (dE x23 (i64.wrap (a1+1)) a2).bind λx25=>
    if a1 == 3 then
     some (x25.2,({ x20.1 with bQ:=v11,aL:=[v13,x25.1] }:aB))
    else
     (iI n x25.2 a1).bind λx28=>
     cT dE n a1 a2 c15 x28 x25.2 ({ x20.1 with bQ:=v11,aL:=[v13,x25.1] }:aB)
   else
    some (v12,v13)
def eP (dA:aA->Int->Option (aB × aA)) (dE:aA->Int->Int->Option (aB × aA)) (n:Nat) (a0:aA) (a1:Int) (a2:Int):Option (aB × aA):=
 if a1 == 7 then
  (dA a0 a2).bind λx3=>
  some (x3.1,x3.2)
 else
  (dE a0 (i64.wrap (a1+1)) a2).bind λx5=>
  (iI n x5.2 a1).bind λx8=>
  (cT dE n a1 a2 n x8 x5.2 x5.1).bind λy14=>
  some (y14.2,y14.1)
def fH:List cB:=[([126]:cB),([45]:cB)]
@[go_sem] def fG (dA:aA->Int->Option (aB × aA)) (n:Nat) (a1:Int):Nat->Int->aA->aB->aB->Option ((aA × aB × aB) ⊕ (aB × aA))
 | 0,_,_,_,_=>none
 | c23+1,v18,v19,v20,v21=>
   if decide (v18<2) then
    (bY fH v18).bind λx28=>
    (bE n v19 x28).bind λx37=>
    if x37.1=true then
     (dA x37.2 (i64.wrap (a1+1))).bind λx40=>
     some (.inr (({ v20 with bT:=18,bQ:=x28,aL:=[x40.1] }:aB),x40.2))
    else
     fG dA n a1 c23 (i64.wrap (v18+1)) x37.2 v20 v21
   else
    some (.inl (v19,v20,v21))
def bV (eT:aA->Int->Option (aB × aA)) (dA:aA->Int->Option (aB × aA)) (iX:aA->Int->Option ((List aB) × aA)) (n:Nat) (a0:aA) (a1:Int):Option (aB × aA):=
 (iJ a0 a1).bind λx4=>
 (bE n x4 ([40]:cB)).bind λx6=>
 if x6.1=true then
  (eT x6.2 (i64.wrap (a1+1))).bind λx9=>
  (aX n x9.2 ([41]:cB)).bind λx12=>
  some (x9.1,x12)
 else
  (dR x6.2 15).bind λx14=>
  (fG dA n a1 n 0 x14.2 x14.1 (aB.mk 0 0 [] 0 [])).bind λy22=>
  y22.elim (λy22a=>
   (if y22a.1.e_ == 0 then
      (cG y22a.1).bind λx72=>
      some (x72.bT == 2)
     else
      some false).bind λy70=>
   if y70 then
    (gG y22a.1).bind λx78=>
    some (({ y22a.2.1 with bT:=14,kL:=x78.1 }:aB),x78.2)
   else
    (dD n y22a.1).bind λx80=>
    ((fX n x80.2 ([40]:cB)).bind λx83=>
      if x83 then
       (iX x80.2 a1).bind λx86=>
       some (x86.2,({ y22a.2.1 with bT:=17,bQ:=x80.1,aL:=x86.1 }:aB))
      else
       (bE n x80.2 ([91]:cB)).bind λx88=>
       if x88.1=true then
        (eT x88.2 (i64.wrap (a1+1))).bind λx91=>
        (aX n x91.2 ([93]:cB)).bind λx93=>
        some (x93,({ y22a.2.1 with bT:=16,bQ:=x80.1,aL:=[x91.1] }:aB))
       else
        some (x88.2,({ y22a.2.1 with bQ:=x80.1 }:aB))).bind λy82=>
    some (y82.2,y82.1)) (λy22a=>
   some y22a)
def dI (eT:aA->Int->Option (aB × aA)) (n:Nat) (a0:aA) (a1:Int):Option (aB × aA):=
 (eT a0 (i64.wrap (a1+1))).bind λx2=>
 some (x2.1,x2.2)
def aJ:Nat->(aA->Int->Option ((List aB) × aA)) × (aA->Int->Option (aB × aA)) × (aA->Int->Int->Option (aB × aA)) × (aA->Int->Option (aB × aA)) × (aA->Int->Option (aB × aA))
 | 0=>(λ_ _=>none,λ_ _=>none,λ_ _ _=>none,λ_ _=>none,λ_ _=>none)
 | n+1=>(cK (aJ n).2.2.2.2 n,gI (aJ n).2.2.1 n,eP (aJ n).2.2.2.1 (aJ n).2.2.1 n,bV (aJ n).2.1 (aJ n).2.2.2.1 (aJ n).1 n,dI (aJ n).2.1 n)
def kH (n:Nat):aA->Int->Option ((List aB) × aA):=(aJ n).1
def cM (n:Nat):aA->Int->Option (aB × aA):=(aJ n).2.1
def kR (n:Nat):aA->Int->Int->Option (aB × aA):=(aJ n).2.2.1
def dB (n:Nat):aA->Int->Option (aB × aA):=(aJ n).2.2.2.1
def qX (n:Nat):aA->Int->Option (aB × aA):=(aJ n).2.2.2.2
def fK (n:Nat) (a0:aA) (a1:aB) (a2:Int):Option (aB × aA):=
 (dD n a0).bind λx3=>
 (aX n x3.2 ([61]:cB)).bind λx5=>
 (cM n x5 a2).bind λx7=>
 (aX n x7.2 ([59]:cB)).bind λx9=>
 some (({ a1 with bQ:=x3.1,aL:=[x7.1] }:aB),x9)
def fW (n:Nat) (a0:aA) (a1:Int):Option (aB × aA):=
 (cM n a0 (i64.wrap (a1+2))).bind λx2=>
 some (x2.1,x2.2)
@[go_sem] def cN (n:Nat) (a1:Int):Nat->(List aB)->aA->Option ((List aB) × aA)
 | 0,_,_=>none
 | c11+1,v8,v9=>
   if v9.e_ == 0 then
    (fW n v9 a1).bind λx16=>
    iU (v8.length+[x16.1].length<=1073741824) <|
    (bE n x16.2 ([44]:cB)).bind λx21=>
    if !x21.1 then
     some ((v8++[x16.1]),x21.2)
    else
     cN n a1 c11 (v8++[x16.1]) x21.2
   else
    some (v8,v9)
def cX (n:Nat) (a0:aA) (a1:Int):Option ((List aB) × aA):=
 (aX n a0 ([40]:cB)).bind λx1=>
 (bE n x1 ([41]:cB)).bind λx3=>
 if x3.1=true then
  some ([],x3.2)
 else
  ((cN n a1 n [] x3.2).bind λy10=>
    some (y10.1,y10.2)).bind λy6=>
  (aX n y6.2 ([41]:cB)).bind λx27=>
  some (y6.1,x27)
def fI (n:Nat) (a0:aA) (a1:aB) (a2:Int):Option (aB × aA):=
 (dD n a0).bind λx5=>
 ((fX n x5.2 ([40]:cB)).bind λx8=>
   if x8 then
    (cX n x5.2 a2).bind λx11=>
    some (x11.2,({ a1 with bT:=10,bQ:=x5.1,aL:=x11.1 }:aB))
   else
    (bE n x5.2 ([91]:cB)).bind λx13=>
    if x13.1=true then
     (cM n x13.2 (i64.wrap (a2+2))).bind λx16=>
     (aX n x16.2 ([93]:cB)).bind λx18=>
     (aX n x18 ([61]:cB)).bind λx20=>
     (cM n x20 (i64.wrap (a2+1))).bind λx22=>
     iU ([x16.1].length+[x22.1].length<=1073741824) <|
     some (x22.2,({ a1 with bT:=9,bQ:=x5.1,aL:=([x16.1]++[x22.1]) }:aB))
    else
     (aX n x13.2 ([61]:cB)).bind λx25=>
     (cM n x25 (i64.wrap (a2+1))).bind λx27=>
     some (x27.2,({ a1 with bQ:=x5.1,aL:=[x27.1] }:aB))).bind λy7=>
 (aX n y7.1 ([59]:cB)).bind λx32=>
 some (y7.2,x32)
@[go_sem] def dJ (fZ:aA->Int->Option (aB × aA)) (n:Nat) (a1:Int):Nat->aA->aB->Option (aA × aB)
 | 0,_,_=>none
 | c13+1,v10,v11=>
   (if v10.e_ == 0 then
      (fX n v10 ([125]:cB)).bind λx19=>
      some (!x19)
     else
      some false).bind λy17=>
   if y17 then
    (fZ v10 a1).bind λx25=>
    iU (v11.aL.length+[x25.1].length<=1073741824) <|
    dJ fZ n a1 c13 x25.2 ({ v11 with aL:=(v11.aL++[x25.1]) }:aB)
   else
    some (v10,v11)
def dC (fZ:aA->Int->Option (aB × aA)) (n:Nat) (a0:aA) (a1:Int):Option (aB × aA):=
 (iJ a0 a1).bind λx2=>
 (dR x2 4).bind λx4=>
 (aX n x4.2 ([123]:cB)).bind λx7=>
 (dJ fZ n a1 n x7 x4.1).bind λy12=>
 (aX n y12.1 ([125]:cB)).bind λx32=>
 some (y12.2,x32)
def bF (mR:aA->aB->Int->Option (aB × aA)) (nP:aA->aB->Int->Option (aB × aA)) (n:Nat) (a0:aA) (a1:Int):Option (aB × aA):=
 (dR a0 8).bind λx2=>
 ((bE n x2.2 ([108,101,116]:cB)).bind λx6=>
   if x6.1=true then
    (fK n x6.2 ({ x2.1 with bT:=5 }:aB) (i64.wrap (a1+1))).bind λx9=>
    some (.inr (x9.1,x9.2))
   else
    (bE n x6.2 ([118,97,114]:cB)).bind λx11=>
    if x11.1=true then
     (fK n x11.2 ({ x2.1 with bT:=6 }:aB) (i64.wrap (a1+1))).bind λx14=>
     some (.inr (x14.1,x14.2))
    else
     (bE n x11.2 ([97,114,114]:cB)).bind λx16=>
     if x16.1=true then
      (dD n x16.2).bind λx19=>
      (iH n x19.2).bind λx21=>
      some (.inl (x21.2,({ x2.1 with bT:=7,bQ:=x19.1,kL:=x21.1 }:aB)))
     else
      (bE n x16.2 ([114,101,116,117,114,110]:cB)).bind λx23=>
      if x23.1=true then
       (cM n x23.2 (i64.wrap (a1+1))).bind λx26=>
       some (.inl (x26.2,({ x2.1 with bT:=13,aL:=[x26.1] }:aB)))
      else
       (bE n x23.2 ([105,102]:cB)).bind λx28=>
       if x28.1=true then
        (mR x28.2 x2.1 a1).bind λx31=>
        some (.inr (x31.1,x31.2))
       else
        (bE n x28.2 ([102,111,114]:cB)).bind λx33=>
        if x33.1=true then
         (nP x33.2 x2.1 a1).bind λx36=>
         some (.inr (x36.1,x36.2))
        else
         (fI n x33.2 x2.1 a1).bind λx38=>
         some (.inr (x38.1,x38.2)):Option ((aA × aB) ⊕ (aB × aA))).bind λy5=>
 y5.elim (λy5a=>
  (aX n y5a.1 ([59]:cB)).bind λx43=>
  some (y5a.2,x43)) (λy5a=>
  some y5a)
def eD (eL:aA->Int->Option (aB × aA)) (n:Nat) (a0:aA) (a1:aB) (a2:Int):Option (aB × aA):=
 (cM n a0 (i64.wrap (a2+1))).bind λx3=>
 (eL x3.2 (i64.wrap (a2+1))).bind λx5=>
 iU ([x3.1].length+[x5.1].length<=1073741824) <|
 (bE n x5.2 ([101,108,115,101]:cB)).bind λx8=>
 if x8.1=true then
  (eL x8.2 (i64.wrap (a2+1))).bind λx11=>
  iU (([x3.1]++[x5.1]).length+[x11.1].length<=1073741824) <|
  some (({ a1 with bT:=11,aL:=(([x3.1]++[x5.1])++[x11.1]) }:aB),x11.2)
 else
  some (({ a1 with bT:=11,aL:=([x3.1]++[x5.1]) }:aB),x8.2)
def gH (eL:aA->Int->Option (aB × aA)) (n:Nat) (a0:aA) (a1:aB) (a2:Int):Option (aB × aA):=
 (dD n a0).bind λx3=>
 (aX n x3.2 ([105,110]:cB)).bind λx5=>
 (cM n x5 (i64.wrap (a2+1))).bind λx7=>
 (aX n x7.2 ([46,46]:cB)).bind λx9=>
 (cM n x9 (i64.wrap (a2+1))).bind λx11=>
 iU ([x7.1].length+[x11.1].length<=1073741824) <|
 (eL x11.2 (i64.wrap (a2+1))).bind λx14=>
 iU (([x7.1]++[x11.1]).length+[x14.1].length<=1073741824) <|
 some (({ a1 with bT:=12,bQ:=x3.1,aL:=(([x7.1]++[x11.1])++[x14.1]) }:aB),x14.2)
def bR:Nat->(aA->Int->Option (aB × aA)) × (aA->Int->Option (aB × aA)) × (aA->aB->Int->Option (aB × aA)) × (aA->aB->Int->Option (aB × aA))
 | 0=>(λ_ _=>none,λ_ _=>none,λ_ _ _=>none,λ_ _ _=>none)
 | n+1=>(dC (bR n).2.1 n,bF (bR n).2.2.1 (bR n).2.2.2 n,eD (bR n).1 n,gH (bR n).1 n)
def bN (n:Nat):aA->Int->Option (aB × aA):=(bR n).1
def lN (n:Nat):aA->Int->Option (aB × aA):=(bR n).2.1
def hY (n:Nat):aA->aB->Int->Option (aB × aA):=(bR n).2.2.1
def jF (n:Nat):aA->aB->Int->Option (aB × aA):=(bR n).2.2.2
def eC (n:Nat) (a0:aA):Option (aB × aA):=
 (dR a0 2).bind λx2=>
 (bE n x2.2 ([101,120,112,111,114,116]:cB)).bind λx5=>
 if x5.1=true then
  (aX n x5.2 ([102,110]:cB)).bind λx8=>
  (dD n x8).bind λx10=>
  (cH n x10.2).bind λx12=>
  (bE n x12.2 ([45,62]:cB)).bind λx14=>
  if x14.1=true then
   (bE n x14.2 ([117,51,50]:cB)).bind λx17=>
   if x17.1=true then
    (bN n x17.2 1).bind λx20=>
    iU (x12.1.length+[x20.1].length<=1073741824) <|
    some (({ x2.1 with bQ:=x10.1,kL:=(orK .u32 1 2),aL:=(x12.1++[x20.1]) }:aB),x20.2)
   else
    (aX n x17.2 ([117,54,52]:cB)).bind λx25=>
    (bN n x25 1).bind λx27=>
    iU (x12.1.length+[x27.1].length<=1073741824) <|
    some (({ x2.1 with bQ:=x10.1,kL:=(orK .u32 1 4),aL:=(x12.1++[x27.1]) }:aB),x27.2)
  else
   (bN n x14.2 1).bind λx32=>
   iU (x12.1.length+[x32.1].length<=1073741824) <|
   some (({ x2.1 with bQ:=x10.1,kL:=1,aL:=(x12.1++[x32.1]) }:aB),x32.2)
 else
  (aX n x5.2 ([102,110]:cB)).bind λx37=>
  (dD n x37).bind λx39=>
  (cH n x39.2).bind λx41=>
  (bE n x41.2 ([45,62]:cB)).bind λx43=>
  if x43.1=true then
   (bE n x43.2 ([117,51,50]:cB)).bind λx46=>
   if x46.1=true then
    (bN n x46.2 1).bind λx49=>
    iU (x41.1.length+[x49.1].length<=1073741824) <|
    some (({ x2.1 with bQ:=x39.1,kL:=(orK .u32 x2.1.kL 2),aL:=(x41.1++[x49.1]) }:aB),x49.2)
   else
    (aX n x46.2 ([117,54,52]:cB)).bind λx54=>
    (bN n x54 1).bind λx56=>
    iU (x41.1.length+[x56.1].length<=1073741824) <|
    some (({ x2.1 with bQ:=x39.1,kL:=(orK .u32 x2.1.kL 4),aL:=(x41.1++[x56.1]) }:aB),x56.2)
  else
   (bN n x43.2 1).bind λx61=>
   iU (x41.1.length+[x61.1].length<=1073741824) <|
   some (({ x2.1 with bQ:=x39.1,aL:=(x41.1++[x61.1]) }:aB),x61.2)
@[go_sem] def lJ (n:Nat):Nat->aA->aB->Option (aA × aB)
 | 0,_,_=>none
 | c13+1,v10,v11=>
   (if v10.e_ == 0 then
      (cG v10).bind λx19=>
      some (x19.bT != 4)
     else
      some false).bind λy17=>
   if y17 then
    (eC n v10).bind λx25=>
    iU (v11.aL.length+[x25.1].length<=1073741824) <|
    lJ n c13 x25.2 ({ v11 with aL:=(v11.aL++[x25.1]) }:aB)
   else
    some (v10,v11)
def mG (n:Nat) (a0:cB):Option (aB × Int × Int):=
 (mV n a0).bind λx2=>
 if x2.2.1 != 0 then
  some ((aB.mk 0 0 [] 0 []),x2.2.1,x2.2.2)
 else
  (dR (aA.mk x2.1 0 0 0 0) 1).bind λx6=>
  (lJ n n x6.2 x6.1).bind λy12=>
  if y12.1.e_ != 0 then
   some ((aB.mk 0 0 [] 0 []),y12.1.e_,y12.1.yW)
  else
   some (y12.2,0,0)
def nT (a0:aQ) (a1:cB):Option Bool:=
 some (decide (a0.iS=a1))
@[go_sem] def bK (a0:(List aQ)) (a1:cB):Nat->Int->Option (Unit ⊕ Int)
 | 0,_=>none
 | c4+1,v2=>
   if decide (v2<(a0.length:Int)) then
    (bY a0 v2).bind λx9=>
    (nT x9 a1).bind λx10=>
    if x10 then
     some (.inr v2)
    else
     bK a0 a1 c4 (i64.wrap (v2+1))
   else
    some (.inl ())
def cC (n:Nat) (a0:(List aQ)) (a1:cB):Option Int:=
 (bK a0 a1 n 0).bind λy3=>
 y3.elim (λy3a=>
  some (-1:Int)) (λy3a=>
  some y3a)
def dS (n:Nat) (a0:cY) (a1:cB):Option (Int × Bool):=
 (cC n a0.aS a1).bind λx3=>
 some ((max x3 0),(decide (0<=x3)))
def mH (a0:aD) (a1:aF) (a2:Int) (a3:Int):Option aF:=
 if a1.e_ == 0 then
  some (aF.mk a2 a3)
 else
  some a1
def aO (a0:aD) (a1:aF) (a2:Bool) (a3:Int) (a4:Int):Option aF:=
 if !a2 then
  (mH a0 a1 a3 a4).bind λx2=>
  some x2
 else
  some a1
@[go_sem] def uC (a0:cB):Nat->Int->Option (Unit ⊕ Int)
 | 0,_=>none
 | c4+1,v2=>
   if decide (v2<5) then
    (bY cV v2).bind λx9=>
    if decide (x9.Nq=a0) then
     some (.inr x9.NI)
    else
     uC a0 c4 (i64.wrap (v2+1))
   else
    some (.inl ())
def qZ (n:Nat) (a0:cB):Option Int:=
 (uC a0 n 0).bind λy3=>
 y3.elim (λy3a=>
  some 0) (λy3a=>
  some y3a)
def tF (a0:Int):Option Int:=
 if (Iy .u32 a0 2) != 0 then
  some 2
 else
  if (Iy .u32 a0 4) != 0 then
   some 3
  else
   some 0
@[go_sem] def cL (n:Nat) (a2:aB):Nat->Int->aD->aF->Option (aD × aF)
 | 0,_,_,_=>none
 | c9+1,v5,v6,v7=>
   if decide (v5<(a2.aL.length:Int)) then
    (bY a2.aL v5).bind λx14=>
    (dS n v6.p_ x14.bQ).bind λx20=>
    (if !x20.2 then
       (qZ n x14.bQ).bind λx25=>
       (aO v6 v7 (x25 == 0) 131 x14.eO).bind λx26=>
       some x26
      else
       (aO v6 v7 false 131 x14.eO).bind λx29=>
       some x29).bind λy23=>
    (tF x14.kL).bind λx34=>
    iU (v6.f_<0) <|
    iU (v6.p_.aS.length+1<=1073741824) <|
    cL n a2 c9 (i64.wrap (v5+1)) ({ v6 with p_:=⟨(v6.p_.aS++[(aQ.mk x14.bQ ((Iy .u32 x14.kL 1) != 0) x34 0 [] [])])⟩ }:aD) y23
   else
    some (v6,v7)
def iA (n:Nat) (a0:aD) (a1:aF) (a2:aB):Option (aD × aF):=
 (aO a0 a1 (decide ((a2.aL.length:Int)<=64)) 136 a2.eO).bind λx2=>
 (cL n a2 n 0 a0 x2).bind λy8=>
 iU (0<=(a2.aL.length:Int)/\(a2.aL.length:Int)<=1073741824) <|
 some (({ y8.1 with bP:=(List.replicate a2.aL.length []) }:aD),y8.2)
@[go_sem] def fR (x1:aQ):Nat->Int->aD->Option aD
 | 0,_,_=>none
 | c31+1,v28,v29=>
   if decide (v28<x1.bS) then
    iU (v29.aZ.length+1<=1073741824) <|
    fR x1 c31 (i64.wrap (v28+1)) ({ v29 with aZ:=(v29.aZ++[v28]) }:aD)
   else
    some v29
def fB (n:Nat) (a0:aD) (a1:aF) (a2:Int):Option (aD × aF):=
 (bY a0.p_.aS a2).bind λx1=>
 (fR x1 n 0 ({ a0 with f_:=a2,aZ:=[],fA:=a2 }:aD)).bind λy30=>
 some (y30,a1)
def uX (a0:Int):Option Bool:=
 (if decide (1<=a0) then
    if decide (a0<=255) then
     some true
    else
     if decide (255<a0) then
      if decide (a0<=1024) then
       some ((a0.tmod 4) == 0)
      else
       some false
     else
      some false
   else
    if decide (255<a0) then
     if decide (a0<=1024) then
      some ((a0.tmod 4) == 0)
     else
      some false
    else
     some false).bind λy1=>
 some y1
@[go_sem] def fM (a0:aD) (a2:cB):Nat->Int->Option (Unit ⊕ Int)
 | 0,_=>none
 | c5+1,v3=>
   if decide (0<=v3) then
    (bY a0.p_.aS a0.f_).bind λx10=>
    (bY a0.aZ v3).bind λx13=>
    (bY x10.bW x13).bind λx14=>
    if decide (x14.iS=a2) then
     some (.inr x13)
    else
     fM a0 a2 c5 (i64.wrap (v3 - 1))
   else
    some (.inl ())
def eX (n:Nat) (a0:aD) (a1:aF) (a2:cB):Option Int:=
 (fM a0 a2 n (i64.wrap ((a0.aZ.length:Int) - 1))).bind λy4=>
 y4.elim (λy4a=>
  some (-1:Int)) (λy4a=>
  some y4a)
def cU (n:Nat) (a0:aD) (a1:aF) (a2:bB) (a3:Int):Option (Int × aD × aF):=
 (eX n a0 a1 a2.iS).bind λx2=>
 (aO a0 a1 (decide (x2<0)) 131 a3).bind λx3=>
 (bY a0.p_.aS a0.f_).bind λx6=>
 (aO a0 x3 (decide ((x6.bW.length:Int)<250)) 136 a3).bind λx9=>
 if x9.e_ != 0 then
  some ((-1:Int),a0,x9)
 else
  iU (x6.bW.length+1<=1073741824) <|
  iU (a0.aZ.length+1<=1073741824) <|
  some ((x6.bW.length:Int),({ a0 with p_:=⟨(a0.p_.aS.set a0.f_.toNat { x6 with bW:=(x6.bW++[a2]) })⟩,aZ:=(a0.aZ++[(x6.bW.length:Int)]) }:aD),x9)
@[go_sem] def eR (n:Nat) (a2:(List aB)):Nat->Int->aD->aF->Option (aD × aF)
 | 0,_,_,_=>none
 | c6+1,v2,v3,v4=>
   if decide (v2<(a2.length:Int)) then
    ((bY a2 v2).bind λx12=>
      (if (i64.wrap x12.kL) == 4 then
         some (decide (0<(x12.aL.length:Int)))
        else
         some false).bind λy19=>
      if y19 then
       (bY x12.aL 0).bind λx25=>
       (uX (i64.wrap x25.kL)).bind λx31=>
       (aO v3 v4 x31 136 x12.eO).bind λx32=>
       (cU n v3 x32 (bB.mk x12.bQ (i64.wrap x12.kL) (i64.wrap x25.kL)) x12.eO).bind λx35=>
       some (x35.2.1,x35.2.2)
      else
       (cU n v3 v4 (bB.mk x12.bQ (i64.wrap x12.kL) 0) x12.eO).bind λx37=>
       some (x37.2.1,x37.2.2)).bind λy11=>
    eR n a2 c6 (i64.wrap (v2+1)) y11.1 y11.2
   else
    some (v3,v4)
def gQ (n:Nat) (a0:aD) (a1:aF) (a2:(List aB)):Option (aD × aF):=
 (eR n a2 n 0 a0 a1).bind λy5=>
 (bY y5.1.p_.aS y5.1.f_).bind λx61=>
 some (({ y5.1 with p_:=⟨(y5.1.p_.aS.set y5.1.f_.toNat { x61 with bS:=(x61.bW.length:Int) })⟩ }:aD),y5.2)
@[go_sem] def oF (a0:aQ):Nat->Int->Int->Option Int
 | 0,_,_=>none
 | c8+1,v5,v6=>
   if decide (v6<((a0.bW.take a0.bS.toNat).length:Int)) then
    ((bY (a0.bW.take a0.bS.toNat) v6).bind λx14=>
      if x14.bT == 3 then
       some (i64.wrap ((i64.wrap (v5+(i64.wrap ((v5.tmod 2)+1))))+1))
      else
       some (i64.wrap (v5+1))).bind λy13=>
    oF a0 c8 y13 (i64.wrap (v6+1))
   else
    some v5
def rO (n:Nat) (a0:aQ):Option Int:=
 iU (0<=a0.bS/\a0.bS<=(a0.bW.length:Int)) <|
 (oF a0 n 0 0).bind λy7=>
 some y7
def dV (n:Nat) (a0:aD) (a1:aF) (a2:Int) (a3:aB):Option (aD × aF):=
 (fB n a0 a1 a2).bind λx2=>
 iU (0<=(max (i64.wrap ((a3.aL.length:Int) - 1)) 0)/\(max (i64.wrap ((a3.aL.length:Int) - 1)) 0)<=(a3.aL.length:Int)) <|
 (gQ n x2.1 x2.2 (a3.aL.take (max (i64.wrap ((a3.aL.length:Int) - 1)) 0).toNat)).bind λx4=>
 if x4.2.e_ == 0 then
  ((bY x4.1.p_.aS x4.1.f_).bind λx10=>
    if !x10.jT then
     (aO x4.1 x4.2 true 136 a3.eO).bind λx27=>
     some x27
    else
     (rO n x10).bind λx29=>
     (aO x4.1 x4.2 (decide (x29<=4)) 136 a3.eO).bind λx30=>
     some x30).bind λy9=>
  some (x4.1,y9)
 else
  some (x4.1,x4.2)
def dP (a0:aD) (a1:aF) (a2:Int):Option Int:=
 if decide (a2<0) then
  some 0
 else
  (bY a0.p_.aS a0.f_).bind λx2=>
  (bY x2.bW a2).bind λx5=>
  some x5.bT
def eK (n:Nat) (a0:aD) (a1:aF) (a2:aB):Option (Int × aF):=
 (eX n a0 a1 a2.bQ).bind λx2=>
 (aO a0 a1 (decide (0<=x2)) 130 a2.eO).bind λx4=>
 some (x2,x4)
def sB (a0:Int) (a1:Int):Option Int:=
 (if a0 == a1 then
    if decide (1<=a0) then
     some (decide (a0<=3))
    else
     some false
   else
    some false).bind λy1=>
 if y1 then
  some a0
 else
  (if a0 == 1 then
     if a1 == 2 then
      some true
     else
      if a0 == 2 then
       some (a1 == 1)
      else
       some false
    else
     if a0 == 2 then
      some (a1 == 1)
     else
      some false).bind λy8=>
  if y8 then
   some 2
  else
   some 0
def cD (a0:aD) (a1:aF) (a2:aI) (a3:Int):Option (aI × aF):=
 (aO a0 a1 (a3 != 0) 132 a2.eO).bind λx3=>
 some (({ a2 with dQ:=a3 }:aI),x3)
def gJ (a0:aD) (a1:aF) (a2:aI) (a3:aI) (a4:aI):Option (aI × aF):=
 (aO a0 a1 (a4.dQ == 1) 133 a4.eO).bind λx5=>
 if a3.dQ == 3 then
  (if decide (a4.sT=([110,117,109]:cB)) then
     (aO a0 x5 (decide (a4.N_<=63)) 132 a2.eO).bind λx10=>
     some x10
    else
     (aO a0 x5 false 132 a2.eO).bind λx12=>
     some x12).bind λy8=>
  (cD a0 y8 a2 a3.dQ).bind λx17=>
  some (x17.1,x17.2)
 else
  (cD a0 x5 a2 a3.dQ).bind λx19=>
  some (x19.1,x19.2)
def sA (a0:Int):Option Int:=
 if a0 == 1 then
  some 2
 else
  some a0
def pV (a0:Int):Option Bool:=
 (if a0 == 1 then
    some true
   else
    some (a0 == 2)).bind λy1=>
 some y1
def jQ (a0:aD) (a1:aF) (a2:aI):Option Int:=
 (bY a2.aL 1).bind λx2=>
 (bY a2.aL 2).bind λx3=>
 (sB x2.dQ x3.dQ).bind λx4=>
 ((bY a2.aL 0).bind λx17=>
   (pV x17.dQ).bind λx18=>
   if !x18 then
    some true
   else
    some (x4 == 0)).bind λy16=>
 if y16 then
  some 0
 else
  (sA x4).bind λx30=>
  some x30
def jP (mZ:aD->aF->aB->aI->Option (aI × aF)) (mS:aD->aF->aB->aI->Option (aI × aF)) (mF:aD->aF->aB->aI->Option (aI × aF)) (lW:aD->aF->aB->aI->Option (aI × aF)) (n:Nat) (a0:aD) (a1:aF) (a2:aB):Option (aI × aF):=
 if a2.bT == 14 then
  some ((aI.mk ([110,117,109]:cB) 1 a2.kL (-1:Int) [] a2.eO),a1)
 else
  if a2.bT == 15 then
   (eK n a0 a1 a2).bind λx6=>
   (dP a0 x6.2 x6.1).bind λx8=>
   (aO a0 x6.2 (x8 != 4) 132 a2.eO).bind λx10=>
   some ((aI.mk ([118,97,114]:cB) x8 0 x6.1 [] a2.eO),x10)
  else
   if a2.bT == 16 then
    (mZ a0 a1 a2 (aI.mk [] 0 0 (-1:Int) [] a2.eO)).bind λx13=>
    some (x13.1,x13.2)
   else
    if a2.bT == 18 then
     (mS a0 a1 a2 (aI.mk [] 0 0 (-1:Int) [] a2.eO)).bind λx16=>
     some (x16.1,x16.2)
    else
     if a2.bT == 19 then
      (mF a0 a1 a2 (aI.mk [] 0 0 (-1:Int) [] a2.eO)).bind λx19=>
      some (x19.1,x19.2)
     else
      (lW a0 a1 a2 (aI.mk [] 0 0 (-1:Int) [] a2.eO)).bind λx21=>
      some (x21.1,x21.2)
def jO (dU:aD->aF->aB->Option (aI × aF)) (n:Nat) (a0:aD) (a1:aF) (a2:aB) (a3:aI):Option (aI × aF):=
 (bY a2.aL 0).bind λx4=>
 (dU a0 a1 x4).bind λx5=>
 (eK n a0 x5.2 a2).bind λx13=>
 (dP a0 x13.2 x13.1).bind λx15=>
 (aO a0 x13.2 (x15 == 4) 132 a2.eO).bind λx16=>
 (aO a0 x16 (x5.1.dQ == 1) 133 x5.1.eO).bind λx19=>
 (if x19.e_ == 0 then
    some (decide (x5.1.sT=([110,117,109]:cB)))
   else
    some false).bind λy21=>
 if y21 then
  (bY a0.p_.aS a0.f_).bind λx27=>
  (bY x27.bW x13.1).bind λx30=>
  (aO a0 x19 (decide ((i64.wrap x5.1.N_)<x30.rR)) 137 x5.1.eO).bind λx31=>
  some (({ a3 with sT:=([105,110,100,101,120]:cB),dQ:=2,rQ:=x13.1,aL:=[x5.1] }:aI),x31)
 else
  some (({ a3 with sT:=([105,110,100,101,120]:cB),dQ:=2,rQ:=x13.1,aL:=[x5.1] }:aI),x19)
def jB (cR:aD->aF->(List aB)->Option ((List aI) × aF)) (n:Nat) (a0:aD) (a1:aF) (a2:aB) (a3:aI):Option (aI × aF):=
 (cR a0 a1 a2.aL).bind λx4=>
 if decide (a2.bQ=([45]:cB)) then
  (bY x4.1 0).bind λx7=>
  some (({ a3 with sT:=([110,101,103]:cB),dQ:=x7.dQ,aL:=x4.1 }:aI),x4.2)
 else
  (bY x4.1 0).bind λx13=>
  some (({ a3 with sT:=([110,111,116]:cB),dQ:=x13.dQ,aL:=x4.1 }:aI),x4.2)
def fT (cR:aD->aF->(List aB)->Option ((List aI) × aF)) (n:Nat) (a0:aD) (a1:aF) (a2:aB) (a3:aI):Option (aI × aF):=
 (cR a0 a1 a2.aL).bind λx4=>
 (bY x4.1 0).bind λx6=>
 (bY x4.1 1).bind λx9=>
 (sB x6.dQ x9.dQ).bind λx20=>
 if decide (a2.bQ=([47]:cB)) then
  (aO a0 x4.2 (x6.dQ == 1) 133 x6.eO).bind λx23=>
  (aO a0 x23 (x9.dQ == 1) 133 x9.eO).bind λx25=>
  (cD a0 x25 ({ a3 with sT:=a2.bQ,aL:=x4.1 }:aI) 1).bind λx27=>
  some (x27.1,x27.2)
 else
  if decide (a2.bQ=([37]:cB)) then
   (aO a0 x4.2 (x6.dQ == 1) 133 x6.eO).bind λx30=>
   (aO a0 x30 (x9.dQ == 1) 133 x9.eO).bind λx32=>
   (cD a0 x32 ({ a3 with sT:=a2.bQ,aL:=x4.1 }:aI) 1).bind λx34=>
   some (x34.1,x34.2)
  else
   if decide (a2.bQ=([60,60]:cB)) then
    (gJ a0 x4.2 ({ a3 with sT:=a2.bQ,aL:=x4.1 }:aI) x6 x9).bind λx37=>
    some (x37.1,x37.2)
   else
    if decide (a2.bQ=([62,62]:cB)) then
     (gJ a0 x4.2 ({ a3 with sT:=a2.bQ,aL:=x4.1 }:aI) x6 x9).bind λx40=>
     some (x40.1,x40.2)
    else
     if decide (a2.bQ=([60,60,60]:cB)) then
      (gJ a0 x4.2 ({ a3 with sT:=a2.bQ,aL:=x4.1 }:aI) x6 x9).bind λx43=>
      some (x43.1,x43.2)
     else
      if decide (a2.bQ=([42]:cB)) then
       (aO a0 x4.2 (x20 != 3) 132 a2.eO).bind λx46=>
       (cD a0 x46 ({ a3 with sT:=a2.bQ,aL:=x4.1 }:aI) x20).bind λx48=>
       some (x48.1,x48.2)
      else
       if decide (a2.bQ=([61,61]:cB)) then
        if x20 == 3 then
         (cD a0 x4.2 ({ a3 with sT:=a2.bQ,aL:=x4.1 }:aI) 2).bind λx52=>
         some (x52.1,x52.2)
        else
         (cD a0 x4.2 ({ a3 with sT:=a2.bQ,aL:=x4.1 }:aI) x20).bind λx54=>
         some (x54.1,x54.2)
       else
        if decide (a2.bQ=([60]:cB)) then
         if x20 == 3 then
          (cD a0 x4.2 ({ a3 with sT:=a2.bQ,aL:=x4.1 }:aI) 2).bind λx58=>
          some (x58.1,x58.2)
         else
          (cD a0 x4.2 ({ a3 with sT:=a2.bQ,aL:=x4.1 }:aI) x20).bind λx60=>
          some (x60.1,x60.2)
        else
         (cD a0 x4.2 ({ a3 with sT:=a2.bQ,aL:=x4.1 }:aI) x20).bind λx62=>
         some (x62.1,x62.2)
def iE (cR:aD->aF->(List aB)->Option ((List aI) × aF)) (n:Nat) (a0:aD) (a1:aF) (a2:aB) (a3:aI):Option (aI × aF):=
 (qZ n a2.bQ).bind λx4=>
 (aO a0 a1 (decide (0<x4)) 130 a2.eO).bind λx6=>
 (aO a0 x6 ((a2.aL.length:Int) == x4) 136 a2.eO).bind λx8=>
 (cR a0 x8 a2.aL).bind λx10=>
 if x10.2.e_ != 0 then
  some (({ a3 with sT:=a2.bQ,aL:=x10.1 }:aI),x10.2)
 else
  (bY x10.1 0).bind λx13=>
  if decide (a2.bQ=([115,101,108,101,99,116]:cB)) then
   (jQ a0 x10.2 ({ a3 with sT:=a2.bQ,aL:=x10.1 }:aI)).bind λx20=>
   (cD a0 x10.2 ({ a3 with sT:=a2.bQ,aL:=x10.1 }:aI) x20).bind λx21=>
   some (x21.1,x21.2)
  else
   if decide (a2.bQ=([108,111,110,103]:cB)) then
    (pV x13.dQ).bind λx25=>
    (aO a0 x10.2 x25 132 a2.eO).bind λx26=>
    (cD a0 x26 ({ a3 with sT:=a2.bQ,aL:=x10.1 }:aI) 3).bind λx29=>
    some (x29.1,x29.2)
   else
    if decide (a2.bQ=([119,105,100,101]:cB)) then
     ((pV x13.dQ).bind λx33=>
       if x33 then
        (bY x10.1 1).bind λx36=>
        (pV x36.dQ).bind λx37=>
        (aO a0 x10.2 x37 132 a2.eO).bind λx38=>
        some x38
       else
        (aO a0 x10.2 false 132 a2.eO).bind λx46=>
        some x46).bind λy32=>
     (cD a0 y32 ({ a3 with sT:=a2.bQ,aL:=x10.1 }:aI) 3).bind λx51=>
     some (x51.1,x51.2)
    else
     (aO a0 x10.2 (x13.dQ == 3) 132 a2.eO).bind λx53=>
     (cD a0 x53 ({ a3 with sT:=a2.bQ,aL:=x10.1 }:aI) 2).bind λx55=>
     some (x55.1,x55.2)
@[go_sem] def fE (dU:aD->aF->aB->Option (aI × aF)) (a2:(List aB)) (a0:aD):Nat->(List aI)->Int->aF->Option ((List aI) × aF)
 | 0,_,_,_=>none
 | c6+1,v2,v3,v4=>
   if decide (v3<(a2.length:Int)) then
    (bY a2 v3).bind λx11=>
    (dU a0 v4 x11).bind λx17=>
    iU (v2.length+[x17.1].length<=1073741824) <|
    fE dU a2 a0 c6 (v2++[x17.1]) (i64.wrap (v3+1)) x17.2
   else
    some (v2,v4)
def kB (dU:aD->aF->aB->Option (aI × aF)) (n:Nat) (a0:aD) (a1:aF) (a2:(List aB)):Option ((List aI) × aF):=
 (fE dU a2 a0 n [] 0 a1).bind λy5=>
 some (y5.1,y5.2)
def aY:Nat->(aD->aF->aB->Option (aI × aF)) × (aD->aF->aB->aI->Option (aI × aF)) × (aD->aF->aB->aI->Option (aI × aF)) × (aD->aF->aB->aI->Option (aI × aF)) × (aD->aF->aB->aI->Option (aI × aF)) × (aD->aF->(List aB)->Option ((List aI) × aF))
 | 0=>(λ_ _ _=>none,λ_ _ _ _=>none,λ_ _ _ _=>none,λ_ _ _ _=>none,λ_ _ _ _=>none,λ_ _ _=>none)
 | n+1=>(jP (aY n).2.1 (aY n).2.2.1 (aY n).2.2.2.1 (aY n).2.2.2.2.1 n,jO (aY n).1 n,jB (aY n).2.2.2.2.2 n,fT (aY n).2.2.2.2.2 n,iE (aY n).2.2.2.2.2 n,kB (aY n).1 n)
def cJ (n:Nat):aD->aF->aB->Option (aI × aF):=(aY n).1
def Do (n:Nat):aD->aF->aB->aI->Option (aI × aF):=(aY n).2.1
def CT (n:Nat):aD->aF->aB->aI->Option (aI × aF):=(aY n).2.2.1
def vO (n:Nat):aD->aF->aB->aI->Option (aI × aF):=(aY n).2.2.2.1
def Bx (n:Nat):aD->aF->aB->aI->Option (aI × aF):=(aY n).2.2.2.2.1
def tK (n:Nat):aD->aF->(List aB)->Option ((List aI) × aF):=(aY n).2.2.2.2.2
def dX (n:Nat) (a0:aD) (a1:aF) (a2:aB):Option (aI × aF):=
 (cJ n a0 a1 a2).bind λx3=>
 (aO a0 x3.2 (x3.1.dQ == 1) 133 a2.eO).bind λx6=>
 some (x3.1,x6)
def iQ (n:Nat) (a0:aD) (a1:aF) (a2:aB):Option (Int × aF):=
 (dS n a0.p_ a2.bQ).bind λx2=>
 (aO a0 a1 x2.2 130 a2.eO).bind λx5=>
 some (x2.1,x5)
def iO (a0:aD) (a1:aF) (a2:Int):Option (List bB):=
 (bY a0.p_.aS a2).bind λx1=>
 iU (0<=x1.bS/\x1.bS<=(x1.bW.length:Int)) <|
 some (x1.bW.take (x1.bS.toNat))
def sC (a0:Int) (a1:Int):Option Bool:=
 (if a0 == a1 then
    some true
   else
    if a0 == 1 then
     some (a1 == 2)
    else
     some false).bind λy1=>
 some y1
def iZ (n:Nat) (a0:aD) (a1:aF) (a2:aB) (a3:Int):Option (aI × aF):=
 (aO a0 a1 (a2.bT == 15) 132 a2.eO).bind λx3=>
 (eK n a0 x3 a2).bind λx5=>
 ((dP a0 x5.2 x5.1).bind λx8=>
   if x8 == 4 then
    (bY a0.p_.aS a0.f_).bind λx11=>
    (bY x11.bW (max x5.1 0)).bind λx14=>
    (aO a0 x5.2 (x14.rR == a3) 132 a2.eO).bind λx15=>
    some x15
   else
    (aO a0 x5.2 false 132 a2.eO).bind λx40=>
    some x40).bind λy7=>
 some ((aI.mk ([118,97,114]:cB) 4 0 x5.1 [] a2.eO),y7)
def iR (n:Nat) (a0:aD) (a1:aF) (a2:aB) (a3:bB):Option (aI × aF):=
 if a3.bT == 4 then
  (iZ n a0 a1 a2 a3.rR).bind λx5=>
  some (x5.1,x5.2)
 else
  if a3.bT == 1 then
   (dX n a0 a1 a2).bind λx8=>
   some (x8.1,x8.2)
  else
   (cJ n a0 a1 a2).bind λx10=>
   (sC x10.1.dQ a3.bT).bind λx13=>
   (aO a0 x10.2 x13 132 a2.eO).bind λx14=>
   some (x10.1,x14)
@[go_sem] def gZ (n:Nat) (a2:aB) (x20:(List bB)) (a0:aD) (x7:(List Int)) (x4:(Int × aF)):Nat->Int->aF->aG->Option (aF × aG)
 | 0,_,_,_=>none
 | c29+1,v25,v26,v27=>
   if decide (v25<(a2.aL.length:Int)) then
    (bY a2.aL v25).bind λx34=>
    if v26.e_ != 0 then
     some (v26,v27)
    else
     (bY x20 v25).bind λx41=>
     (iR n ({ a0 with bP:=(a0.bP.set a0.fA.toNat (x7++[x4.1])) }:aD) v26 x34 x41).bind λx42=>
     iU (v27.aL.length+[x42.1].length<=1073741824) <|
     gZ n a2 x20 a0 x7 x4 c29 (i64.wrap (v25+1)) x42.2 ({ v27 with aL:=(v27.aL++[x42.1]) }:aG)
   else
    some (v26,v27)
def gT (n:Nat) (a0:aD) (a1:aF) (a2:aB) (a3:aG) (a4:Int):Option (aG × aD × aF):=
 (iQ n a0 a1 a2).bind λx4=>
 if x4.2.e_ != 0 then
  some (({ a3 with sT:=([99,97,108,108]:cB),rQ:=a4,oL:=x4.1,aL:=[] }:aG),a0,x4.2)
 else
  (bY a0.bP a0.fA).bind λx7=>
  iU (x7.length+1<=1073741824) <|
  (iO ({ a0 with bP:=(a0.bP.set a0.fA.toNat (x7++[x4.1])) }:aD) x4.2 x4.1).bind λx20=>
  (aO ({ a0 with bP:=(a0.bP.set a0.fA.toNat (x7++[x4.1])) }:aD) x4.2 ((a2.aL.length:Int) == (x20.length:Int)) 136 a2.eO).bind λx22=>
  (gZ n a2 x20 a0 x7 x4 n 0 x22 ({ a3 with sT:=([99,97,108,108]:cB),rQ:=a4,oL:=x4.1,aL:=[] }:aG)).bind λy28=>
  some (y28.2,({ a0 with bP:=(a0.bP.set a0.fA.toNat (x7++[x4.1])) }:aD),y28.1)
def iP (n:Nat) (a0:aD) (a1:aF) (a2:aB):Option Bool:=
 (if a2.bT == 17 then
    (qZ n a2.bQ).bind λx4=>
    some (x4 == 0)
   else
    some false).bind λy2=>
 some y2
def kA (n:Nat) (a0:aD) (a1:aF) (a2:aB) (a3:aG):Option (aG × aD × aF):=
 (bY a2.aL 0).bind λx4=>
 (iP n a0 a1 x4).bind λx5=>
 if x5 then
  (gT n a0 a1 x4 ({ a3 with aL:=[] }:aG) (-1:Int)).bind λx13=>
  if x13.2.2.e_ != 0 then
   some (({ x13.1 with eO:=a2.eO }:aG),x13.2.1,x13.2.2)
  else
   (bY x13.2.1.p_.aS x13.1.oL).bind λx16=>
   (aO x13.2.1 x13.2.2 (x16.cW != 0) 132 a2.eO).bind λx30=>
   (cU n x13.2.1 x30 (bB.mk a2.bQ x16.cW 0) a2.eO).bind λx32=>
   some (({ x13.1 with rQ:=x32.1,eO:=a2.eO }:aG),x32.2.1,x32.2.2)
 else
  (cJ n a0 a1 x4).bind λx34=>
  (sA x34.1.dQ).bind λx37=>
  (cU n a0 x34.2 (bB.mk a2.bQ x37 0) a2.eO).bind λx38=>
  some (({ a3 with sT:=([118,97,114]:cB),rQ:=x38.1,aL:=[x34.1] }:aG),x38.2.1,x38.2.2)
def jC (n:Nat) (a0:aD) (a1:aF) (a2:aB):Option (Int × aF):=
 (eK n a0 a1 a2).bind λx2=>
 (dP a0 x2.2 x2.1).bind λx4=>
 (if x4 == 2 then
    (aO a0 x2.2 true 132 a2.eO).bind λx8=>
    some x8
   else
    (aO a0 x2.2 (x4 == 3) 132 a2.eO).bind λx10=>
    some x10).bind λy6=>
 some (x2.1,y6)
def lQ (n:Nat) (a0:aD) (a1:aF) (a2:aB) (a3:aG):Option (aG × aD × aF):=
 (jC n a0 a1 a2).bind λx4=>
 (bY a2.aL 0).bind λx6=>
 (iP n a0 x4.2 x6).bind λx7=>
 if x7 then
  (gT n a0 x4.2 x6 ({ a3 with aL:=[] }:aG) x4.1).bind λx15=>
  if x15.2.2.e_ == 0 then
   (dP x15.2.1 x15.2.2 x4.1).bind λx18=>
   (bY x15.2.1.p_.aS x15.1.oL).bind λx19=>
   (aO x15.2.1 x15.2.2 (x19.cW == x18) 132 a2.eO).bind λx21=>
   some (({ x15.1 with eO:=a2.eO }:aG),x15.2.1,x21)
  else
   some (({ x15.1 with eO:=a2.eO }:aG),x15.2.1,x15.2.2)
 else
  (cJ n a0 x4.2 x6).bind λx36=>
  (dP a0 x36.2 x4.1).bind λx39=>
  (sC x36.1.dQ x39).bind λx40=>
  (aO a0 x36.2 x40 132 a2.eO).bind λx41=>
  some (({ a3 with sT:=([115,101,116]:cB),rQ:=x4.1,aL:=[x36.1] }:aG),a0,x41)
def jZ (n:Nat) (a0:aD) (a1:aF) (a2:aB) (a3:Int):Option (aI × aF):=
 (dX n a0 a1 a2).bind λx3=>
 (if x3.2.e_ == 0 then
    some (decide (x3.1.sT=([110,117,109]:cB)))
   else
    some false).bind λy6=>
 if y6 then
  (bY a0.p_.aS a0.f_).bind λx12=>
  (bY x12.bW a3).bind λx15=>
  (aO a0 x3.2 (decide ((i64.wrap x3.1.N_)<x15.rR)) 137 a2.eO).bind λx16=>
  some (x3.1,x16)
 else
  some (x3.1,x3.2)
def lR (n:Nat) (a0:aD) (a1:aF) (a2:aB) (a3:aG):Option (aG × aF):=
 (eK n a0 a1 a2).bind λx4=>
 (dP a0 x4.2 x4.1).bind λx6=>
 (aO a0 x4.2 (x6 == 4) 132 a2.eO).bind λx7=>
 (bY a2.aL 0).bind λx10=>
 (jZ n a0 x7 x10 x4.1).bind λx11=>
 (bY a2.aL 1).bind λx19=>
 (cJ n a0 x11.2 x19).bind λx20=>
 (sC x20.1.dQ 2).bind λx28=>
 (aO a0 x20.2 x28 132 a2.eO).bind λx29=>
 some (({ a3 with sT:=([112,117,116]:cB),rQ:=x4.1,aL:=[x11.1,x20.1] }:aG),x29)
def gU (n:Nat) (a0:aD) (a1:aF) (a2:aB) (a3:aG) (a4:Bool):Option (aG × aD × aF):=
 (if a4 then
    (bY a0.p_.aS a0.f_).bind λx6=>
    (aO a0 a1 (x6.cW != 0) 135 a2.eO).bind λx9=>
    some x9
   else
    (aO a0 a1 false 135 a2.eO).bind λx24=>
    some x24).bind λy4=>
 (if y4.e_ == 0 then
    (bY a2.aL 0).bind λx31=>
    (iP n a0 y4 x31).bind λx32=>
    some x32
   else
    some false).bind λy29=>
 if y29 then
  (bY a2.aL 0).bind λx43=>
  (gT n a0 y4 x43 ({ a3 with aL:=[] }:aG) (-2:Int)).bind λx44=>
  if x44.2.2.e_ == 0 then
   (bY x44.2.1.p_.aS x44.1.oL).bind λx52=>
   (bY x44.2.1.p_.aS x44.2.1.f_).bind λx54=>
   (aO x44.2.1 x44.2.2 (x52.cW == x54.cW) 132 a2.eO).bind λx57=>
   some (({ x44.1 with eO:=a2.eO }:aG),x44.2.1,x57)
  else
   some (({ x44.1 with eO:=a2.eO }:aG),x44.2.1,x44.2.2)
 else
  (bY a2.aL 0).bind λx83=>
  (cJ n a0 y4 x83).bind λx84=>
  (bY a0.p_.aS a0.f_).bind λx92=>
  (sC x84.1.dQ x92.cW).bind λx95=>
  (aO a0 x84.2 x95 132 a2.eO).bind λx96=>
  some (({ a3 with sT:=([114,101,116,117,114,110]:cB),aL:=[x84.1] }:aG),a0,x96)
@[go_sem] def eM (eV:aD->aF->aB->Bool->Option (aG × aD × aF)) (a2:aB) (a3:Bool):Nat->(List aG)->Int->aD->aF->Option ((List aG) × aD × aF)
 | 0,_,_,_,_=>none
 | c9+1,v4,v5,v6,v7=>
   if decide (v5<(a2.aL.length:Int)) then
    (bY a2.aL v5).bind λx14=>
    if v7.e_ != 0 then
     some (v4,v6,v7)
    else
     (if a3 then
        (eV v6 v7 x14 (v5 == (i64.wrap ((a2.aL.length:Int) - 1)))).bind λx28=>
        iU (v4.length+[x28.1].length<=1073741824) <|
        some ((v4++[x28.1]),x28.2.1,x28.2.2)
       else
        (eV v6 v7 x14 false).bind λx33=>
        iU (v4.length+[x33.1].length<=1073741824) <|
        some ((v4++[x33.1]),x33.2.1,x33.2.2)).bind λy26=>
     eM eV a2 a3 c9 y26.1 (i64.wrap (v5+1)) y26.2.1 y26.2.2
   else
    some (v4,v6,v7)
def fN (eV:aD->aF->aB->Bool->Option (aG × aD × aF)) (n:Nat) (a0:aD) (a1:aF) (a2:aB) (a3:Bool):Option ((List aG) × aD × aF):=
 (eM eV a2 a3 n [] 0 a0 a1).bind λy8=>
 iU (0<=(a0.aZ.length:Int)/\(a0.aZ.length:Int)<=(y8.2.1.aZ.length:Int)) <|
 some (y8.1,({ y8.2.1 with aZ:=(y8.2.1.aZ.take (a0.aZ.length)) }:aD),y8.2.2)
@[go_sem] def dH (dF:aD->aF->aB->Bool->Option ((List aG) × aD × aF)) (a2:aB):Nat->Int->aD->aF->aG->Option (aD × aF × aG)
 | 0,_,_,_,_=>none
 | c59+1,v54,v55,v56,v57=>
   if decide (v54<((a2.aL.drop 2).length:Int)) then
    (bY (a2.aL.drop 2) v54).bind λx64=>
    (dF v55 v56 x64 false).bind λx70=>
    dH dF a2 c59 (i64.wrap (v54+1)) x70.2.1 x70.2.2 ({ v57 with pZ:=x70.1 }:aG)
   else
    some (v55,v56,v57)
def iN (dF:aD->aF->aB->Bool->Option ((List aG) × aD × aF)) (oR:aD->aF->aB->aG->Option (aG × aD × aF)) (n:Nat) (a0:aD) (a1:aF) (a2:aB) (a3:Bool):Option (aG × aD × aF):=
 if a2.bT == 5 then
  (bY a2.aL 0).bind λx5=>
  (dX n a0 a1 x5).bind λx6=>
  (cU n a0 x6.2 (bB.mk a2.bQ 1 0) a2.eO).bind λx13=>
  some ((aG.mk ([108,101,116]:cB) x13.1 0 [x6.1] [] [] a2.eO),x13.2.1,x13.2.2)
 else
  if a2.bT == 6 then
   (kA n a0 a1 a2 (aG.mk [] (-1:Int) 0 [] [] [] a2.eO)).bind λx16=>
   some (x16.1,x16.2.1,x16.2.2)
  else
   if a2.bT == 7 then
    (uX (i64.wrap (min a2.kL 1025))).bind λx19=>
    (aO a0 a1 x19 136 a2.eO).bind λx20=>
    (cU n a0 x20 (bB.mk a2.bQ 4 (i64.wrap a2.kL)) a2.eO).bind λx23=>
    some ((aG.mk ([97,114,114]:cB) x23.1 0 [] [] [] a2.eO),x23.2.1,x23.2.2)
   else
    if a2.bT == 8 then
     (lQ n a0 a1 a2 (aG.mk [] (-1:Int) 0 [] [] [] a2.eO)).bind λx26=>
     some (x26.1,x26.2.1,x26.2.2)
    else
     if a2.bT == 9 then
      (lR n a0 a1 a2 (aG.mk [] (-1:Int) 0 [] [] [] a2.eO)).bind λx29=>
      some (x29.1,a0,x29.2)
     else
      if a2.bT == 10 then
       (gT n a0 a1 a2 (aG.mk [] (-1:Int) 0 [] [] [] a2.eO) (-1:Int)).bind λx32=>
       some (x32.1,x32.2.1,x32.2.2)
      else
       if a2.bT == 11 then
        (bY a2.aL 0).bind λx35=>
        (dX n a0 a1 x35).bind λx36=>
        (bY a2.aL 1).bind λx43=>
        (dF a0 x36.2 x43 false).bind λx44=>
        iU ((0:Int)<=2/\2<=(a2.aL.length:Int)) <|
        (dH dF a2 n 0 x44.2.1 x44.2.2 (aG.mk ([105,102]:cB) (-1:Int) 0 [x36.1] x44.1 [] a2.eO)).bind λy58=>
        some (y58.2.2,y58.1,y58.2.1)
       else
        if a2.bT == 12 then
         (oR a0 a1 a2 (aG.mk [] (-1:Int) 0 [] [] [] a2.eO)).bind λx73=>
         some (x73.1,x73.2.1,x73.2.2)
        else
         if a2.bT == 13 then
          (gU n a0 a1 a2 (aG.mk [] (-1:Int) 0 [] [] [] a2.eO) a3).bind λx76=>
          some (x76.1,x76.2.1,x76.2.2)
         else
          some ((aG.mk [] (-1:Int) 0 [] [] [] a2.eO),a0,a1)
def kZ (dF:aD->aF->aB->Bool->Option ((List aG) × aD × aF)) (n:Nat) (a0:aD) (a1:aF) (a2:aB) (a3:aG):Option (aG × aD × aF):=
 (bY a2.aL 0).bind λx4=>
 (dX n a0 a1 x4).bind λx5=>
 (bY a2.aL 1).bind λx6=>
 (dX n a0 x5.2 x6).bind λx7=>
 (cU n a0 x7.2 (bB.mk a2.bQ 1 0) a2.eO).bind λx21=>
 (bY a2.aL 2).bind λx23=>
 (dF x21.2.1 x21.2.2 x23 false).bind λx24=>
 iU (0<=(min (a0.aZ.length:Int) (x24.2.1.aZ.length:Int))/\(min (a0.aZ.length:Int) (x24.2.1.aZ.length:Int))<=(x24.2.1.aZ.length:Int)) <|
 some (({ a3 with sT:=([102,111,114]:cB),rQ:=x21.1,aL:=[x5.1,x7.1],eG:=x24.1 }:aG),({ x24.2.1 with aZ:=(x24.2.1.aZ.take ((min (a0.aZ.length:Int) (x24.2.1.aZ.length:Int)).toNat)) }:aD),x24.2.2)
def dG:Nat->(aD->aF->aB->Bool->Option ((List aG) × aD × aF)) × (aD->aF->aB->Bool->Option (aG × aD × aF)) × (aD->aF->aB->aG->Option (aG × aD × aF))
 | 0=>(λ_ _ _ _=>none,λ_ _ _ _=>none,λ_ _ _ _=>none)
 | n+1=>(fN (dG n).2.1 n,iN (dG n).1 (dG n).2.2 n,kZ (dG n).1 n)
def lU (n:Nat):aD->aF->aB->Bool->Option ((List aG) × aD × aF):=(dG n).1
def oH (n:Nat):aD->aF->aB->Bool->Option (aG × aD × aF):=(dG n).2.1
def Dn (n:Nat):aD->aF->aB->aG->Option (aG × aD × aF):=(dG n).2.2
def uB (a0:aB):Option Bool:=
 (if decide (0<(a0.aL.length:Int)) then
    (bY a0.aL (i64.wrap ((a0.aL.length:Int) - 1))).bind λx4=>
    some (x4.bT == 13)
   else
    some false).bind λy2=>
 some y2
@[go_sem] def eE (n:Nat) (a3:aB):Nat->Int->aD->aF->Option (aD × aF)
 | 0,_,_,_=>none
 | c11+1,v7,v8,v9=>
   if decide (v7<((a3.aL.drop (max (i64.wrap ((a3.aL.length:Int) - 1)) 0).toNat).length:Int)) then
    (bY (a3.aL.drop (max (i64.wrap ((a3.aL.length:Int) - 1)) 0).toNat) v7).bind λx16=>
    (bY v8.p_.aS v8.f_).bind λx22=>
    (lU n v8 v9 x16 true).bind λx25=>
    (bY x25.2.1.p_.aS v8.f_).bind λx26=>
    ((bY (x25.2.1.p_.aS.set v8.f_.toNat { x26 with eG:=x25.1 }) v8.f_).bind λx56=>
      if x56.cW == 0 then
       (aO ({ x25.2.1 with p_:=⟨(x25.2.1.p_.aS.set v8.f_.toNat { x26 with eG:=x25.1 })⟩ }:aD) x25.2.2 true 135 a3.eO).bind λx71=>
       some x71
      else
       (uB x16).bind λx73=>
       (aO ({ x25.2.1 with p_:=⟨(x25.2.1.p_.aS.set v8.f_.toNat { x26 with eG:=x25.1 })⟩ }:aD) x25.2.2 x73 135 a3.eO).bind λx74=>
       some x74).bind λy55=>
    eE n a3 c11 (i64.wrap (v7+1)) ({ x25.2.1 with p_:=⟨(x25.2.1.p_.aS.set v8.f_.toNat { x26 with eG:=x25.1 })⟩ }:aD) y55
   else
    some (v8,v9)
def dW (n:Nat) (a0:aD) (a1:aF) (a2:Int) (a3:aB):Option (aD × aF):=
 (fB n a0 a1 a2).bind λx2=>
 iU (0<=(max (i64.wrap ((a3.aL.length:Int) - 1)) 0)/\(max (i64.wrap ((a3.aL.length:Int) - 1)) 0)<=(a3.aL.length:Int)) <|
 (eE n a3 n 0 x2.1 x2.2).bind λy10=>
 some (y10.1,y10.2)
def rK (rec_:Int->List Int->Option (Bool × List Int)) (to:Int):List Int->List Int->Option (Bool × List Int)
 | [],seen=>some (false,seen)
 | k::ks,seen=>
   if k == to then some (true,seen)
   else
    (bY seen k).bind λs=>
    if i64.wrap (s+1) == 1 then
     (rec_ k (seen.set k.toNat (i64.wrap (s+1)))).bind λr=>
     if r.1=true then some (true,r.2) else rK rec_ to ks r.2
    else rK rec_ to ks (seen.set k.toNat (i64.wrap (s+1)))
def fL:Nat->aD->Int->Int->List Int->Option (Bool × List Int)
 | 0,_,_,_,_=>none
 | n+1,c,fr,to,seen=>(bY c.bP fr).bind λl=>iU (l.length<=1073741824) <| rK (λk s=>fL n c k to s) to l seen
abbrev Ii:=Int->aB->aD->aF->Option (aD × aF)
def fY (look:Ii):List aB->Nat->aD->aF->Option (aD × aF)
 | [],_,c,w=>some (c,w)
 | f::l,i,c,w=>if w.e_ == 0 then (look i f c w).bind λr=>fY look l (i+1) r.1 r.2 else fY look l (i+1) c w
def pY (nodes:List aB):List Ii->aD->aF->Option (aD × aF)
 | [],c,w=>some (c,w)
 | look::ls,c,w=>(fY look nodes 0 c w).bind λr=>pY nodes ls r.1 r.2
def pK (n len:Nat) (c:aD):List aB->Nat->aF->Option aF
 | [],_,w=>some w
 | f::l,i,w=>if w.e_ == 0 then (fL n c i i (List.replicate len 0)).bind λr=>(aO c w (!r.1) 134 f.eO).bind λw'=>pK n len c l (i+1) w' else pK n len c l (i+1) w
def kD (n:Nat) (a0:cB):Option (cY × Int × Int):=
 (mG n a0).bind λp=>
 if p.2.1 != 0 then some (⟨[]⟩,p.2.1,p.2.2)
 else
  (iA n aD.Z ⟨0,0⟩ p.1).bind λa=>
  iU (p.1.aL.length<=1073741824) <|
  (pY p.1.aL [λi f c w=>dV n c w i f,λi f c w=>dW n c w i f] a.1 a.2).bind λb=>
  (pK n p.1.aL.length b.1 p.1.aL 0 b.2).bind λw=>
  if w.e_ != 0 then some (⟨[]⟩,w.e_,w.yW) else some (b.1.p_,0,0)
structure aM where
 Tag_:cB
 bQ:cB
 A_:Int
 B_:Int
 C_:Int
 D_:Int
 E_:Int
 eO:Int
def aM.C (x:aM):List V:=[.lit (.string (bs x.Tag_)),.lit (.string (bs x.bQ)),.lit (.int .i64 x.A_),.lit (.int .i64 x.B_),.lit (.int .i64 x.C_),.lit (.int .i64 x.D_),.lit (.int .i64 x.E_),.lit (.int .i64 x.eO)]
@[go_sem] theorem aM.C_eq (x:aM):aM.C x=[.lit (.string (bs x.Tag_)),.lit (.string (bs x.bQ)),.lit (.int .i64 x.A_),.lit (.int .i64 x.B_),.lit (.int .i64 x.C_),.lit (.int .i64 x.D_),.lit (.int .i64 x.E_),.lit (.int .i64 x.eO)]:=rI rfl
def nY (n:Nat):Option Bool:=
 (kD n ([101,120,112,111,114,116,32,102,110,32,102,40,112,58,32,112,117,98,44,32,120,58,32,117,51,50,41,32,45,62,32,117,51,50,32,123,32,114,101,116,117,114,110,32,120,32,43,32,112,59,32,125]:cB)).bind λx1=>
 (if x1.2.1 == 0 then
    if (x1.1.aS.length:Int) == 1 then
     (bY x1.1.aS 0).bind λx7=>
     if (x7.bW.length:Int) == 2 then
      if (x7.eG.length:Int) == 1 then
       (bY x7.eG 0).bind λx15=>
       some (decide (x15.sT=([114,101,116,117,114,110]:cB)))
      else
       some false
     else
      some false
    else
     some false
   else
    some false).bind λy4=>
 some y4
@[go_sem] def gD:Nat->Int->cB->Option cB
 | 0,_,_=>none
 | c5+1,v2,v3=>
   iU ((RU (IntKind.i32.wrap (u32.wrap (48+(v2.tmod 10))))).length+v3.length<=4611686018427387904) <|
   if (u32.wrap (v2.tdiv 10)) == 0 then
    some ((RU (IntKind.i32.wrap (u32.wrap (48+(v2.tmod 10)))))++v3)
   else
    gD c5 (u32.wrap (v2.tdiv 10)) ((RU (IntKind.i32.wrap (u32.wrap (48+(v2.tmod 10)))))++v3)
def mN (n:Nat) (a0:Int):Option cB:=
 (gD n a0 ([]:cB)).bind λy4=>
 some y4
@[go_sem] def oQ (iD:(List aI)->Option (List aM)) (a0:(List aI)):Nat->(List aM)->Int->Option (List aM)
 | 0,_,_=>none
 | c5+1,v2,v3=>
   if decide (v3<(a0.length:Int)) then
    (bY a0 v3).bind λx10=>
    iU (([61]:cB).length+x10.sT.length<=4611686018427387904) <|
    iU (v2.length+[(aM.mk (([61]:cB)++x10.sT) [] x10.dQ (i64.wrap x10.N_) x10.rQ (x10.aL.length:Int) 0 x10.eO)].length<=1073741824) <|
    (iD x10.aL).bind λx21=>
    iU ((v2++[(aM.mk (([61]:cB)++x10.sT) [] x10.dQ (i64.wrap x10.N_) x10.rQ (x10.aL.length:Int) 0 x10.eO)]).length+x21.length<=1073741824) <|
    oQ iD a0 c5 ((v2++[(aM.mk (([61]:cB)++x10.sT) [] x10.dQ (i64.wrap x10.N_) x10.rQ (x10.aL.length:Int) 0 x10.eO)])++x21) (i64.wrap (v3+1))
   else
    some v2
def nM (iD:(List aI)->Option (List aM)) (n:Nat) (a0:(List aI)):Option (List aM):=
 (oQ iD a0 n [] 0).bind λy4=>
 some y4
def lS:Nat->(List aI)->Option (List aM)
 | 0=>λ_=>none
 | n+1=>nM (lS n) n
@[go_sem] def oP (gE:(List aG)->Option (List aM)) (n:Nat) (a0:(List aG)):Nat->(List aM)->Int->Option (List aM)
 | 0,_,_=>none
 | c5+1,v2,v3=>
   if decide (v3<(a0.length:Int)) then
    (bY a0 v3).bind λx10=>
    iU (v2.length+[(aM.mk x10.sT [] x10.rQ x10.oL (x10.aL.length:Int) (x10.eG.length:Int) (x10.pZ.length:Int) x10.eO)].length<=1073741824) <|
    (lS n x10.aL).bind λx19=>
    iU ((v2++[(aM.mk x10.sT [] x10.rQ x10.oL (x10.aL.length:Int) (x10.eG.length:Int) (x10.pZ.length:Int) x10.eO)]).length+x19.length<=1073741824) <|
    (gE x10.eG).bind λx23=>
    iU (((v2++[(aM.mk x10.sT [] x10.rQ x10.oL (x10.aL.length:Int) (x10.eG.length:Int) (x10.pZ.length:Int) x10.eO)])++x19).length+x23.length<=1073741824) <|
    (gE x10.pZ).bind λx27=>
    iU ((((v2++[(aM.mk x10.sT [] x10.rQ x10.oL (x10.aL.length:Int) (x10.eG.length:Int) (x10.pZ.length:Int) x10.eO)])++x19)++x23).length+x27.length<=1073741824) <|
    oP gE n a0 c5 ((((v2++[(aM.mk x10.sT [] x10.rQ x10.oL (x10.aL.length:Int) (x10.eG.length:Int) (x10.pZ.length:Int) x10.eO)])++x19)++x23)++x27) (i64.wrap (v3+1))
   else
    some v2
def nJ (gE:(List aG)->Option (List aM)) (n:Nat) (a0:(List aG)):Option (List aM):=
 (oP gE n a0 n [] 0).bind λy4=>
 some y4
def gF:Nat->(List aG)->Option (List aM)
 | 0=>λ_=>none
 | n+1=>nJ (gF n) n
@[go_sem] def gY (x12:aQ):Nat->(List aM)->Int->Option (List aM)
 | 0,_,_=>none
 | c27+1,v24,v25=>
   if decide (v25<(x12.bW.length:Int)) then
    (bY x12.bW v25).bind λx32=>
    iU (v24.length+[(aM.mk ([118]:cB) x32.iS x32.bT x32.rR 0 0 0 0)].length<=1073741824) <|
    gY x12 c27 (v24++[(aM.mk ([118]:cB) x32.iS x32.bT x32.rR 0 0 0 0)]) (i64.wrap (v25+1))
   else
    some v24
@[go_sem] def nL (n:Nat) (a0:cY):Nat->(List aM)->Int->Option (List aM)
 | 0,_,_=>none
 | c6+1,v3,v4=>
   if decide (v4<(a0.aS.length:Int)) then
    ((bY a0.aS v4).bind λx12=>
      if x12.jT=true then
       iU (v3.length+[(aM.mk ([102,110]:cB) x12.iS 1 x12.cW x12.bS (x12.bW.length:Int) (x12.eG.length:Int) 0)].length<=1073741824) <|
       (gY x12 n (v3++[(aM.mk ([102,110]:cB) x12.iS 1 x12.cW x12.bS (x12.bW.length:Int) (x12.eG.length:Int) 0)]) 0).bind λy26=>
       (gF n x12.eG).bind λx45=>
       iU (y26.length+x45.length<=1073741824) <|
       some (y26++x45)
      else
       iU (v3.length+[(aM.mk ([102,110]:cB) x12.iS 0 x12.cW x12.bS (x12.bW.length:Int) (x12.eG.length:Int) 0)].length<=1073741824) <|
       (gY x12 n (v3++[(aM.mk ([102,110]:cB) x12.iS 0 x12.cW x12.bS (x12.bW.length:Int) (x12.eG.length:Int) 0)]) 0).bind λy55=>
       (gF n x12.eG).bind λx74=>
       iU (y55.length+x74.length<=1073741824) <|
       some (y55++x74)).bind λy11=>
    nL n a0 c6 y11 (i64.wrap (v4+1))
   else
    some v3
def jM (n:Nat) (a0:cY):Option (List aM):=
 (nL n a0 n [] 0).bind λy5=>
 some y5
@[go_sem] def kG (x32:(List aM)) (x33:(List aM)):Nat->Int->Option (Unit ⊕ Bool)
 | 0,_=>none
 | c45+1,v43=>
   if decide (v43<(x32.length:Int)) then
    (bY x32 v43).bind λx50=>
    (bY x33 v43).bind λx51=>
    if !((decide (x50.Tag_=x51.Tag_)) && ((decide (x50.bQ=x51.bQ)) && ((x50.A_ == x51.A_) && ((x50.B_ == x51.B_) && ((x50.C_ == x51.C_) && ((x50.D_ == x51.D_) && ((x50.E_ == x51.E_) && (x50.eO == x51.eO)))))))) then
     some (.inr false)
    else
     kG x32 x33 c45 (i64.wrap (v43+1))
   else
    some (.inl ())
def lV (n:Nat) (a0:cB) (a1:Int):Option Bool:=
 (nY n).bind λx1=>
 if !x1 then
  some false
 else
  if decide (2000<(a0.length:Int)) then
   some true
  else
   (kD n a0).bind λx5=>
   iU (([]:cB).length+a0.length<=1073741824) <|
   (mN n a1).bind λx8=>
   iU (([10,102,110,32,122,122,57,40,120,58,32,117,51,50,41,32,45,62,32,117,51,50,32,123,32,114,101,116,117,114,110,32,120,32,43,32]:cB).length+x8.length<=4611686018427387904) <|
   iU ((([10,102,110,32,122,122,57,40,120,58,32,117,51,50,41,32,45,62,32,117,51,50,32,123,32,114,101,116,117,114,110,32,120,32,43,32]:cB)++x8).length+([59,32,125]:cB).length<=4611686018427387904) <|
   iU ((([]:cB)++a0).length+((([10,102,110,32,122,122,57,40,120,58,32,117,51,50,41,32,45,62,32,117,51,50,32,123,32,114,101,116,117,114,110,32,120,32,43,32]:cB)++x8)++([59,32,125]:cB)).length<=1073741824) <|
   (kD n ((([]:cB)++a0)++((([10,102,110,32,122,122,57,40,120,58,32,117,51,50,41,32,45,62,32,117,51,50,32,123,32,114,101,116,117,114,110,32,120,32,43,32]:cB)++x8)++([59,32,125]:cB)))).bind λx9=>
   if x5.2.1 != 0 then
    some true
   else
    if x9.2.1 != 0 then
     (dS n x5.1 ([122,122,57]:cB)).bind λx24=>
     (if x24.2=true then
        some true
       else
        if decide (64<=(x5.1.aS.length:Int)) then
         some true
        else
         some (x9.2.1 == 136)).bind λy26=>
     some y26
    else
     (jM n x5.1).bind λx32=>
     (jM n x9.1).bind λx33=>
     (if (x9.1.aS.length:Int) != (i64.wrap ((x5.1.aS.length:Int)+1)) then
        some true
       else
        some (decide ((x33.length:Int)<(x32.length:Int)))).bind λy36=>
     if y36 then
      some false
     else
      (kG x32 x33 n 0).bind λy44=>
      y44.elim (λy44a=>
       some true) (λy44a=>
       some y44a)
