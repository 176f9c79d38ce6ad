/- Lemmas of ours. -/
import Derived.Test.YtncembphlfbgoaaGreatDoorIPS3
namespace Go.Proofs.YtncembphlfbgoaaGreatDoor.Abs
open IntKind (i64 u32 u64 u8)
open Go.RowKit
set_option linter.unusedVariables false
structure bL where
 Np:cQ
 NK:Int
def bL.C (x:bL):List V:=[.lit (.string (bs x.Np)),.lit (.int .i64 x.NK)]
@[go_sem] theorem bL.C_eq (x:bL):bL.C x=[.lit (.string (bs x.Np)),.lit (.int .i64 x.NK)]:=rI rfl
structure bY where
 GZ:cQ
 op_:Int
def bY.C (x:bY):List V:=[.lit (.string (bs x.GZ)),.lit (.int .i64 x.op_)]
@[go_sem] theorem bY.C_eq (x:bY):bY.C x=[.lit (.string (bs x.GZ)),.lit (.int .i64 x.op_)]:=rI rfl
structure dM where
 bX:Int
 fR:Int
 cP:cQ
 mM:Int
def dM.C (x:dM):List V:=[.lit (.int .i64 x.bX),.lit (.int .i64 x.fR),.lit (.string (bs x.cP)),.lit (.int .u32 x.mM)]
@[go_sem] theorem dM.C_eq (x:dM):dM.C x=[.lit (.int .i64 x.bX),.lit (.int .i64 x.fR),.lit (.string (bs x.cP)),.lit (.int .u32 x.mM)]:=rI rfl
structure aB where
 bX:Int
 fR:Int
 cP:cQ
 mM:Int
 aM:(List aB)
mutual
def aB.C:aB->List V
 | ⟨a0,a1,a2,a3,a4⟩=>[.lit (.int .i64 a0),.lit (.int .i64 a1),.lit (.string (bs a2)),.lit (.int .u32 a3),.list .none (aB.CL a4)]
def aB.CL:List aB->List (List V)
 | []=>[]
 | x::l=>aB.C x::aB.CL l
end
theorem aB.CL_eq (l:List aB):aB.CL l=l.map aB.C:=by
 induction l with
 | nil=>rfl
 | cons x l ih=>rw [aB.CL,ih];rfl
@[go_sem] theorem aB.C_eq (x:aB):aB.C x=[.lit (.int .i64 x.bX),.lit (.int .i64 x.fR),.lit (.string (bs x.cP)),.lit (.int .u32 x.mM),.list .none (x.aM.map aB.C)]:=by
 cases x;simp only [aB.C,aB.CL_eq]
structure aC where
 l_:(List dM)
 gB:Int
 sP:Int
 e_:Int
 Av:Int
def aC.C (x:aC):List V:=[.list .none (x.l_.map dM.C),.lit (.int .i64 x.gB),.lit (.int .i64 x.sP),.lit (.int .i64 x.e_),.lit (.int .i64 x.Av)]
@[go_sem] theorem aC.C_eq (x:aC):aC.C x=[.list .none (x.l_.map dM.C),.lit (.int .i64 x.gB),.lit (.int .i64 x.sP),.lit (.int .i64 x.e_),.lit (.int .i64 x.Av)]:=rI rfl
structure bB where
 jX:cQ
 bX:Int
 jB:Int
def bB.C (x:bB):List V:=[.lit (.string (bs x.jX)),.lit (.int .i64 x.bX),.lit (.int .i64 x.jB)]
@[go_sem] theorem bB.C_eq (x:bB):bB.C x=[.lit (.string (bs x.jX)),.lit (.int .i64 x.bX),.lit (.int .i64 x.jB)]:=rI rfl
structure aG where
 kL:cQ
 cM:Int
 N_:Int
 lO:Int
 aM:(List aG)
 fR:Int
mutual
def aG.C:aG->List V
 | ⟨a0,a1,a2,a3,a4,a5⟩=>[.lit (.string (bs a0)),.lit (.int .i64 a1),.lit (.int .u32 a2),.lit (.int .i64 a3),.list .none (aG.CL a4),.lit (.int .i64 a5)]
def aG.CL:List aG->List (List V)
 | []=>[]
 | x::l=>aG.C x::aG.CL l
end
theorem aG.CL_eq (l:List aG):aG.CL l=l.map aG.C:=by
 induction l with
 | nil=>rfl
 | cons x l ih=>rw [aG.CL,ih];rfl
@[go_sem] theorem aG.C_eq (x:aG):aG.C x=[.lit (.string (bs x.kL)),.lit (.int .i64 x.cM),.lit (.int .u32 x.N_),.lit (.int .i64 x.lO),.list .none (x.aM.map aG.C),.lit (.int .i64 x.fR)]:=by
 cases x;simp only [aG.C,aG.CL_eq]
structure aH where
 kL:cQ
 lO:Int
 pP:Int
 aM:(List aG)
 eK:(List aH)
 sX:(List aH)
 fR:Int
mutual
def aH.C:aH->List V
 | ⟨a0,a1,a2,a3,a4,a5,a6⟩=>[.lit (.string (bs a0)),.lit (.int .i64 a1),.lit (.int .i64 a2),.list .none (a3.map aG.C),.list .none (aH.CL a4),.list .none (aH.CL a5),.lit (.int .i64 a6)]
def aH.CL:List aH->List (List V)
 | []=>[]
 | x::l=>aH.C x::aH.CL l
end
theorem aH.CL_eq (l:List aH):aH.CL l=l.map aH.C:=by
 induction l with
 | nil=>rfl
 | cons x l ih=>rw [aH.CL,ih];rfl
@[go_sem] theorem aH.C_eq (x:aH):aH.C x=[.lit (.string (bs x.kL)),.lit (.int .i64 x.lO),.lit (.int .i64 x.pP),.list .none (x.aM.map aG.C),.list .none (x.eK.map aH.C),.list .none (x.sX.map aH.C),.lit (.int .i64 x.fR)]:=by
 cases x;simp only [aH.C,aH.CL_eq]
structure aR where
 jX:cQ
 iG:Bool
 cR:Int
 aW:Int
 aV:(List bB)
 eK:(List aH)
def aR.C (x:aR):List V:=[.lit (.string (bs x.jX)),.lit (.bool x.iG),.lit (.int .i64 x.cR),.lit (.int .i64 x.aW),.list .none (x.aV.map bB.C),.list .none (x.eK.map aH.C)]
@[go_sem] theorem aR.C_eq (x:aR):aR.C x=[.lit (.string (bs x.jX)),.lit (.bool x.iG),.lit (.int .i64 x.cR),.lit (.int .i64 x.aW),.list .none (x.aV.map bB.C),.list .none (x.eK.map aH.C)]:=rI rfl
structure aN where
 bD:(List aR)
def aN.C (x:aN):List V:=[.list .none (x.bD.map aR.C)]
@[go_sem] theorem aN.C_eq (x:aN):aN.C x=[.list .none (x.bD.map aR.C)]:=rI rfl
def aN.Z:aN:=⟨[]⟩
structure aI where
 e_:Int
 Av:Int
structure aD where
 p_:aN
 f_:Int
 bJ:List Int
 cK:List (List Int)
 gB:Int
def aD.Z:aD:=⟨aN.Z,-1,[],[],0⟩
def oD (F fp S C:V) (x:aD) (y:aI):List V:=[F,fp,S,C,.lit (.int .i64 x.gB),.lit (.int .i64 y.e_),.lit (.int .i64 y.Av)]
@[go_sem] theorem ckC_eq {F fp S C:V} {x:aD} {y:aI}:oD F fp S C x y=[F,fp,S,C,.lit (.int .i64 x.gB),.lit (.int .i64 y.e_),.lit (.int .i64 y.Av)]:=rI rfl
def fO:List cQ:=[[45,62],[46,46],[61,61],[60,60,60],[60,60],[62,62],[60],[40],[41],[123],[125],[91],[93],[44],[59],[58],[61],[43],[45],[42],[47],[37],[38],[124],[94],[126]]
@[go_sem] theorem Qc:(cA cS fO).length=26:=by kernel_rfl
@[go_sem] theorem OZ:(cA cS fO).take 26=(cA cS fO):=by kernel_rfl
def cN:List cQ:=[[102,110],[101,120,112,111,114,116],[108,101,116],[118,97,114],[97,114,114],[105,102],[101,108,115,101],[102,111,114],[105,110],[114,101,116,117,114,110],[112,117,98],[117,51,50],[117,54,52]]
@[go_sem] theorem Nx:(cA cS cN).length=13:=by kernel_rfl
@[go_sem] theorem LL:Aq 1 13 (cA cS cN)=cN.map cS:=rI rfl
def dH:List (List cQ):=[[[124],[],[]],[[94],[],[]],[[38],[],[]],[[61,61],[60],[]],[[60,60],[62,62],[60,60,60]],[[43],[45],[]],[[42],[47],[37]]]
def cX:List bL:=[(bL.mk [115,101,108,101,99,116] 3),(bL.mk [108,111,110,103] 1),(bL.mk [108,111] 1),(bL.mk [104,105] 1),(bL.mk [119,105,100,101] 2)]
@[go_sem] theorem Nz:(cA bL.C cX).length=10:=by kernel_rfl
@[go_sem] theorem MA:(cA bL.C cX).take 10=(cA bL.C cX):=by kernel_rfl
@[go_sem] theorem Lm:(cA bL.C cX).map V.shared=(cA bL.C cX):=rI rfl
def dR:List bY:=[(bY.mk [124] 5),(bY.mk [94] 6),(bY.mk [38] 7),(bY.mk [61,61] 8),(bY.mk [60] 9),(bY.mk [60,60] 10),(bY.mk [62,62] 11),(bY.mk [60,60,60] 12),(bY.mk [43] 13),(bY.mk [45] 14),(bY.mk [42] 15),(bY.mk [47] 16),(bY.mk [37] 17),(bY.mk [110,111,116] 3),(bY.mk [110,101,103] 4)]
@[go_sem] theorem Pb:(cA bY.C dR).length=30:=by kernel_rfl
@[go_sem] theorem Ny:(cA bY.C dR).take 30=(cA bY.C dR):=by kernel_rfl
@[go_sem] theorem LM:(cA bY.C dR).map V.shared=(cA bY.C dR):=rI rfl
def BF (a0:Int):Option Bool:=
 (if a0 == 32 then
    some true
   else
    if a0 == 9 then
     some true
    else
     if a0 == 13 then
      some true
     else
      some (a0 == 10)).bind fun y1=>
 some y1
def gG (a0:cQ) (a1:cQ):Option Bool:=
 (if decide ((a1.length:Int)<=(a0.length:Int)) then
    gX (0<=(a1.length:Int)/\(a1.length:Int)<=(a0.length:Int)) <|
    some (decide ((a0.take (a1.length:Int).toNat)=a1))
   else
    some false).bind fun y1=>
 some y1
def oN (a0:cQ) (a1:cQ):Option Bool:=
 (gG a0 a1).bind fun x1=>
 some x1
def qG (a0:cQ) (a1:Int):Option Int:=some (Lib.indexByte a0 a1.toNat.toUInt8)
def nT (a0:cQ) (a1:Int):Option Int:=
 (qG a0 a1).bind fun x1=>
 some x1
def oM (a0:cQ) (a1:Int):Option Int:=
 (nT a0 a1).bind fun x1=>
 some x1
def sQ (a0:cQ):Nat->Int->Option (Int ⊕ Int)
 | 0,_=>none
 | c4+1,v2=>
   if decide (v2<(a0.length:Int)) then
    (bV a0 v2).bind fun x9=>
    (BF (x9.toNat:Int)).bind fun x10=>
    if x10 then
     sQ a0 c4 (i64.wrap (v2+1))
    else
     gX (0<=v2/\v2<=(a0.length:Int)) <|
     (oN (a0.drop v2.toNat) ([47,47]:cQ)).bind fun x17=>
     if x17 then
      gX (0<=v2/\v2<=(a0.length:Int)) <|
      (oM (a0.drop v2.toNat) 10).bind fun x22=>
      if decide (x22<0) then
       some (.inr (a0.length:Int))
      else
       sQ a0 c4 (i64.wrap (v2+x22))
     else
      some (.inr v2)
   else
    some (.inl v2)
def BE (n:Nat) (a0:cQ) (a1:Int):Option Int:=
 (sQ a0 n a1).bind fun y3=>
 y3.elim (fun y3a=>
  some y3a) (fun y3a=>
  some y3a)
def wI (a0:Int):Option Bool:=
 (if decide (97<=a0) then
    if decide (a0<=122) then
     some true
    else
     some (a0 == 95)
   else
    some (a0 == 95)).bind fun y1=>
 some y1
def yC (a0:Int):Option Bool:=
 (if decide (48<=a0) then
    some (decide (a0<=57))
   else
    some false).bind fun y1=>
 some y1
def uO (a0:cQ):Nat->Int->Option (Unit ⊕ cQ)
 | 0,_=>none
 | c4+1,v2=>
   if decide (v2<(a0.length:Int)) then
    ((bV a0 v2).bind fun x10=>
      (wI (x10.toNat:Int)).bind fun x11=>
      if !x11 then
       (yC (x10.toNat:Int)).bind fun x18=>
       some (!x18)
      else
       some false).bind fun y9=>
    if y9 then
     gX (0<=v2/\v2<=(a0.length:Int)) <|
     some (.inr (a0.take v2.toNat))
    else
     uO a0 c4 (i64.wrap (v2+1))
   else
    some (.inl ())
def DF (n:Nat) (a0:cQ):Option cQ:=
 (uO a0 n 0).bind fun y3=>
 y3.elim (fun y3a=>
  some a0) (fun y3a=>
  some y3a)
def kE (a0:cQ) (a1:cQ):Option (cQ × Bool):=
 (gG a0 a1).bind fun x1=>
 if !x1 then
  some (a0,false)
 else
  gX (0<=(a1.length:Int)/\(a1.length:Int)<=(a0.length:Int)) <|
  some ((a0.drop (a1.length:Int).toNat),true)
def qC (a0:cQ) (a1:cQ):Option (cQ × Bool):=
 (kE a0 a1).bind fun x1=>
 some (x1.1,x1.2)
def tE (x1:(cQ × Bool)):Nat->Int->Int->Option (Int ⊕ (Int × Bool))
 | 0,_,_=>none
 | c8+1,v5,v6=>
   if decide (v6<(x1.1.length:Int)) then
    gX ((0:Int)<=16/\16<=(([48,49,50,51,52,53,54,55,56,57,97,98,99,100,101,102]:cQ).length:Int)) <|
    (bV x1.1 v6).bind fun x13=>
    (oM (([48,49,50,51,52,53,54,55,56,57,97,98,99,100,101,102]:cQ).take (16:Int).toNat) (x13.toNat:Int)).bind fun x14=>
    (if decide (x14<0) then
       some true
      else
       some (decide (4294967295<(i64.wrap ((i64.wrap (v5*16))+x14))))).bind fun y22=>
    if y22 then
     some (.inr (0,false))
    else
     tE x1 c8 (i64.wrap ((i64.wrap (v5*16))+x14)) (i64.wrap (v6+1))
   else
    some (.inl v5)
def tD (a0:cQ):Nat->Int->Int->Option (Int ⊕ (Int × Bool))
 | 0,_,_=>none
 | c32+1,v29,v30=>
   if decide (v30<(a0.length:Int)) then
    gX ((0:Int)<=10/\10<=(([48,49,50,51,52,53,54,55,56,57,97,98,99,100,101,102]:cQ).length:Int)) <|
    (bV a0 v30).bind fun x37=>
    (oM (([48,49,50,51,52,53,54,55,56,57,97,98,99,100,101,102]:cQ).take (10:Int).toNat) (x37.toNat:Int)).bind fun x38=>
    (if decide (x38<0) then
       some true
      else
       some (decide (4294967295<(i64.wrap ((i64.wrap (v29*10))+x38))))).bind fun y46=>
    if y46 then
     some (.inr (0,false))
    else
     tD a0 c32 (i64.wrap ((i64.wrap (v29*10))+x38)) (i64.wrap (v30+1))
   else
    some (.inl v29)
def BD (n:Nat) (a0:cQ):Option (Int × Bool):=
 (qC a0 ([48,120]:cQ)).bind fun x1=>
 if x1.2=true then
  (tE x1 n 0 0).bind fun y7=>
  y7.elim (fun y7a=>
   some ((u32.wrap y7a),(decide (x1.1 ≠ ([]:cQ))))) (fun y7a=>
   some y7a)
 else
  (tD a0 n 0 0).bind fun y31=>
  y31.elim (fun y31a=>
   some ((u32.wrap y31a),(decide (a0 ≠ ([]:cQ))))) (fun y31a=>
   some y31a)
def uP (a0:cQ):Nat->Int->Option (Unit ⊕ cQ)
 | 0,_=>none
 | c4+1,v2=>
   if decide (v2<26) then
    (bV fO v2).bind fun x9=>
    (oN a0 x9).bind fun x17=>
    if x17 then
     some (.inr x9)
    else
     uP a0 c4 (i64.wrap (v2+1))
   else
    some (.inl ())
def DG (n:Nat) (a0:cQ):Option cQ:=
 (uP a0 n 0).bind fun y3=>
 y3.elim (fun y3a=>
  some ([]:cQ)) (fun y3a=>
  some y3a)
def DH (n:Nat) (a0:cQ) (a1:Int):Option (dM × Int):=
 gX (0<=a1/\a1<=(a0.length:Int)) <|
 (DF n (a0.drop a1.toNat)).bind fun x2=>
 (bV a0 a1).bind fun x7=>
 (wI (x7.toNat:Int)).bind fun x8=>
 if x8 then
  if decide (32<(x2.length:Int)) then
   some ((dM.mk 0 0 [] 0),102)
  else
   some ((dM.mk 1 a1 x2 0),0)
 else
  (yC (x7.toNat:Int)).bind fun x16=>
  if x16 then
   (BD n x2).bind fun x19=>
   if !x19.2 then
    some ((dM.mk 0 0 [] 0),101)
   else
    some ((dM.mk 2 a1 x2 x19.1),0)
  else
   gX (0<=a1/\a1<=(a0.length:Int)) <|
   (DG n (a0.drop a1.toNat)).bind fun x22=>
   if decide (x22=([]:cQ)) then
    some ((dM.mk 0 0 [] 0),100)
   else
    some ((dM.mk 3 a1 x22 0),0)
def sD (n:Nat) (a0:cQ):Nat->(List dM)->Int->Option ((List dM) ⊕ ((List dM) × Int × Int))
 | 0,_,_=>none
 | c8+1,v5,v6=>
   if decide (v6<(a0.length:Int)) then
    (DH n a0 v6).bind fun x13=>
    if x13.2 != 0 then
     some (.inr ([],x13.2,v6))
    else
     gX (v5.length+[x13.1].length<=1073741824) <|
     (BE n a0 (i64.wrap (v6+(x13.1.cP.length:Int)))).bind fun x20=>
     sD n a0 c8 (v5++[x13.1]) x20
   else
    some (.inl v5)
def zE (n:Nat) (a0:cQ):Option ((List dM) × Int × Int):=
 if decide (65536<(a0.length:Int)) then
  some ([],161,0)
 else
  (BE n a0 0).bind fun x2=>
  (sD n a0 n [] x2).bind fun y7=>
  y7.elim (fun y7a=>
   gX (y7a.length+[(dM.mk 4 (a0.length:Int) [] 0)].length<=1073741824) <|
   some ((y7a++[(dM.mk 4 (a0.length:Int) [] 0)]),0,0)) (fun y7a=>
   some y7a)
def eU (a0:aC):Option dM:=
 (bV a0.l_ a0.gB).bind fun x2=>
 some x2
def iA (a0:aC) (a1:Int):Option aC:=
 if a0.e_ == 0 then
  (eU a0).bind fun x2=>
  some ({ a0 with e_:=a1,Av:=x2.fR }:aC)
 else
  some a0
def fE (a0:aC) (a1:Int):Option (aB × aC):=
 if decide (16384<(i64.wrap (a0.sP+1))) then
  (iA ({ a0 with sP:=(i64.wrap (a0.sP+1)) }:aC) 136).bind fun x3=>
  (eU x3).bind fun x5=>
  some ((aB.mk a1 x5.fR [] 0 []),x3)
 else
  (eU ({ a0 with sP:=(i64.wrap (a0.sP+1)) }:aC)).bind fun x7=>
  some ((aB.mk a1 x7.fR [] 0 []),({ a0 with sP:=(i64.wrap (a0.sP+1)) }:aC))
def fY (a0:(List cQ)) (a1:cQ):Nat->Int->Option (Unit ⊕ Int)
 | 0,_=>none
 | c4+1,v2=>
   if decide (v2<(a0.length:Int)) then
    (bV a0 v2).bind fun x9=>
    if decide (a1=x9) then
     some (.inr v2)
    else
     fY a0 a1 c4 (i64.wrap (v2+1))
   else
    some (.inl ())
def kY (n:Nat) (a0:(List cQ)) (a1:cQ):Option Int:=
 (fY a0 a1 n 0).bind fun y3=>
 y3.elim (fun y3a=>
  some (-1:Int)) (fun y3a=>
  some y3a)
def jO (n:Nat) (a0:(List cQ)) (a1:cQ):Option Bool:=
 (kY n a0 a1).bind fun x1=>
 some (decide (0<=x1))
def wD (n:Nat) (a0:cQ):Option Bool:=
 (jO n cN a0).bind fun x1=>
 some x1
def iZ (n:Nat) (a0:aC) (a1:cQ):Option Bool:=
 (eU a0).bind fun x1=>
 (if a0.e_ == 0 then
    if decide (x1.cP=a1) then
     if x1.bX == 3 then
      some true
     else
      if x1.bX == 1 then
       (wD n a1).bind fun x9=>
       some x9
      else
       some false
    else
     some false
   else
    some false).bind fun y4=>
 some y4
def cB (n:Nat) (a0:aC) (a1:cQ):Option (Bool × aC):=
 (iZ n a0 a1).bind fun x1=>
 if !x1 then
  some (false,a0)
 else
  some (true,({ a0 with gB:=(i64.wrap (a0.gB+1)) }:aC))
def bS (n:Nat) (a0:aC) (a1:cQ):Option aC:=
 (cB n a0 a1).bind fun x1=>
 if !x1.1 then
  (iA x1.2 110).bind fun x4=>
  some x4
 else
  some x1.2
def eP (n:Nat) (a0:aC):Option (cQ × aC):=
 (eU a0).bind fun x1=>
 (if a0.e_ != 0 then
    some true
   else
    if x1.bX != 1 then
     some true
    else
     (wD n x1.cP).bind fun x7=>
     some x7).bind fun y4=>
 if y4 then
  (iA a0 110).bind fun x13=>
  some (([]:cQ),x13)
 else
  some (x1.cP,({ a0 with gB:=(i64.wrap (a0.gB+1)) }:aC))
def kN (a0:aC):Option (Int × aC):=
 (eU a0).bind fun x1=>
 (if a0.e_ != 0 then
    some true
   else
    some (x1.bX != 2)).bind fun y4=>
 if y4 then
  (iA a0 110).bind fun x10=>
  some (0,x10)
 else
  some (x1.mM,({ a0 with gB:=(i64.wrap (a0.gB+1)) }:aC))
def mN (n:Nat) (a0:aC):Option (Int × aC):=
 (bS n a0 ([91]:cQ)).bind fun x1=>
 (kN x1).bind fun x3=>
 (bS n x3.2 ([93]:cQ)).bind fun x5=>
 some (x3.1,x5)
def qY:List cQ:=[([112,117,98]:cQ),([117,51,50]:cQ),([117,54,52]:cQ)]
def jF (n:Nat):Nat->Int->aC->aB->aB->Option ((aC × aB × aB) ⊕ (aB × aC))
 | 0,_,_,_,_=>none
 | c15+1,v10,v11,v12,v13=>
   if decide (v10<3) then
    (bV qY v10).bind fun x20=>
    (cB n v11 x20).bind fun x29=>
    if x29.1=true then
     some (.inr (({ v13 with mM:=(u32.wrap (i64.wrap (1+v10))) }:aB),x29.2))
    else
     jF n c15 (i64.wrap (v10+1)) x29.2 v12 v13
   else
    some (.inl (v11,v12,v13))
def oI (n:Nat) (a0:aC):Option (aB × aC):=
 (fE a0 3).bind fun x2=>
 (eP n x2.2).bind fun x5=>
 (bS n x5.2 ([58]:cQ)).bind fun x7=>
 (jF n n 0 x7 (aB.mk 0 0 [] 0 []) ({ x2.1 with cP:=x5.1 }:aB)).bind fun y14=>
 y14.elim (fun y14a=>
  (fE y14a.1 14).bind fun x37=>
  (mN n x37.2).bind fun x40=>
  some (({ y14a.2.2 with mM:=4,aM:=[({ x37.1 with mM:=x40.1 }:aB)] }:aB),x40.2)) (fun y14a=>
  some y14a)
def gM (n:Nat):Nat->(List aB)->aC->Option ((List aB) × aC)
 | 0,_,_=>none
 | c11+1,v8,v9=>
   if v9.e_ == 0 then
    (oI n v9).bind fun x16=>
    gX (v8.length+[x16.1].length<=1073741824) <|
    (cB n x16.2 ([44]:cQ)).bind fun x21=>
    if !x21.1 then
     some ((v8++[x16.1]),x21.2)
    else
     gM n c11 (v8++[x16.1]) x21.2
   else
    some (v8,v9)
def gI (n:Nat) (a0:aC):Option ((List aB) × aC):=
 (bS n a0 ([40]:cQ)).bind fun x1=>
 (cB n x1 ([41]:cQ)).bind fun x3=>
 if x3.1=true then
  some ([],x3.2)
 else
  ((gM n n [] x3.2).bind fun y10=>
    some (y10.1,y10.2)).bind fun y6=>
  (bS n y6.2 ([41]:cQ)).bind fun x27=>
  some (y6.1,x27)
def mP (a0:aC) (a1:Int):Option aC:=
 if decide (64<a1) then
  (iA a0 111).bind fun x2=>
  some x2
 else
  some a0
def jZ (n:Nat) (x1:(List cQ)) (a0:aC):Nat->Int->Option (Unit ⊕ cQ)
 | 0,_=>none
 | c15+1,v13=>
   if decide (v13<3) then
    (bV x1 v13).bind fun x20=>
    (if decide (x20 ≠ ([]:cQ)) then
       (iZ n a0 x20).bind fun x31=>
       some x31
      else
       some false).bind fun y29=>
    if y29 then
     some (.inr x20)
    else
     jZ n x1 a0 c15 (i64.wrap (v13+1))
   else
    some (.inl ())
def mO (n:Nat) (a0:aC) (a1:Int):Option cQ:=
 (bV dH a1).bind fun x1=>
 (jZ n x1 a0 n 0).bind fun y14=>
 y14.elim (fun y14a=>
  some ([]:cQ)) (fun y14a=>
  some y14a)
def fK (eT:aC->Int->Option (aB × aC)) (n:Nat) (a1:Int):Nat->(List aB)->aC->Option ((List aB) × aC)
 | 0,_,_=>none
 | c11+1,v8,v9=>
   if v9.e_ == 0 then
    (eT v9 a1).bind fun x16=>
    gX (v8.length+[x16.1].length<=1073741824) <|
    (cB n x16.2 ([44]:cQ)).bind fun x21=>
    if !x21.1 then
     some ((v8++[x16.1]),x21.2)
    else
     fK eT n a1 c11 (v8++[x16.1]) x21.2
   else
    some (v8,v9)
def gT (eT:aC->Int->Option (aB × aC)) (n:Nat) (a0:aC) (a1:Int):Option ((List aB) × aC):=
 (bS n a0 ([40]:cQ)).bind fun x1=>
 (cB n x1 ([41]:cQ)).bind fun x3=>
 if x3.1=true then
  some ([],x3.2)
 else
  ((fK eT n a1 n [] x3.2).bind fun y10=>
    some (y10.1,y10.2)).bind fun y6=>
  (bS n y6.2 ([41]:cQ)).bind fun x27=>
  some (y6.1,x27)
def nH (dE:aC->Int->Int->Option (aB × aC)) (n:Nat) (a0:aC) (a1:Int):Option (aB × aC):=
 (dE a0 0 a1).bind fun x2=>
 some (x2.1,x2.2)
def jG (dE:aC->Int->Int->Option (aB × aC)) (n:Nat) (a1:Int) (a2:Int):Nat->cQ->aC->aB->Option (aC × aB)
 | 0,_,_,_=>none
 | c15+1,v11,v12,v13=>
   if decide (v11 ≠ ([]:cQ)) then
    (fE v12 19).bind fun x20=>
    (bS n x20.2 v11).bind fun x23=>
    (dE x23 (i64.wrap (a1+1)) a2).bind fun x25=>
    if a1 == 3 then
     some (x25.2,({ x20.1 with cP:=v11,aM:=[v13,x25.1] }:aB))
    else
     (mO n x25.2 a1).bind fun x28=>
     jG dE n a1 a2 c15 x28 x25.2 ({ x20.1 with cP:=v11,aM:=[v13,x25.1] }:aB)
   else
    some (v12,v13)
def lX (dC:aC->Int->Option (aB × aC)) (dE:aC->Int->Int->Option (aB × aC)) (n:Nat) (a0:aC) (a1:Int) (a2:Int):Option (aB × aC):=
 if a1 == 7 then
  (dC a0 a2).bind fun x3=>
  some (x3.1,x3.2)
 else
  (dE a0 (i64.wrap (a1+1)) a2).bind fun x5=>
  (mO n x5.2 a1).bind fun x8=>
  (jG dE n a1 a2 n x8 x5.2 x5.1).bind fun y14=>
  some (y14.2,y14.1)
def mY:List cQ:=[([126]:cQ),([45]:cQ)]
def iJ (dC:aC->Int->Option (aB × aC)) (n:Nat) (a1:Int):Nat->Int->aC->aB->aB->Option ((aC × aB × aB) ⊕ (aB × aC))
 | 0,_,_,_,_=>none
 | c23+1,v18,v19,v20,v21=>
   if decide (v18<2) then
    (bV mY v18).bind fun x28=>
    (cB n v19 x28).bind fun x37=>
    if x37.1=true then
     (dC x37.2 (i64.wrap (a1+1))).bind fun x40=>
     some (.inr (({ v20 with bX:=18,cP:=x28,aM:=[x40.1] }:aB),x40.2))
    else
     iJ dC n a1 c23 (i64.wrap (v18+1)) x37.2 v20 v21
   else
    some (.inl (v19,v20,v21))
def kR (eW:aC->Int->Option (aB × aC)) (dC:aC->Int->Option (aB × aC)) (iM:aC->Int->Option ((List aB) × aC)) (n:Nat) (a0:aC) (a1:Int):Option (aB × aC):=
 (mP a0 a1).bind fun x4=>
 (cB n x4 ([40]:cQ)).bind fun x6=>
 if x6.1=true then
  (eW x6.2 (i64.wrap (a1+1))).bind fun x9=>
  (bS n x9.2 ([41]:cQ)).bind fun x12=>
  some (x9.1,x12)
 else
  (fE x6.2 15).bind fun x14=>
  (iJ dC n a1 n 0 x14.2 x14.1 (aB.mk 0 0 [] 0 [])).bind fun y22=>
  y22.elim (fun y22a=>
   (if y22a.1.e_ == 0 then
      (eU y22a.1).bind fun x72=>
      some (x72.bX == 2)
     else
      some false).bind fun y70=>
   if y70 then
    (kN y22a.1).bind fun x78=>
    some (({ y22a.2.1 with bX:=14,mM:=x78.1 }:aB),x78.2)
   else
    (eP n y22a.1).bind fun x80=>
    ((iZ n x80.2 ([40]:cQ)).bind fun x83=>
      if x83 then
       (iM x80.2 a1).bind fun x86=>
       some (x86.2,({ y22a.2.1 with bX:=17,cP:=x80.1,aM:=x86.1 }:aB))
      else
       (cB n x80.2 ([91]:cQ)).bind fun x88=>
       if x88.1=true then
        (eW x88.2 (i64.wrap (a1+1))).bind fun x91=>
        (bS n x91.2 ([93]:cQ)).bind fun x93=>
        some (x93,({ y22a.2.1 with bX:=16,cP:=x80.1,aM:=[x91.1] }:aB))
       else
        some (x88.2,({ y22a.2.1 with cP:=x80.1 }:aB))).bind fun y82=>
    some (y82.2,y82.1)) (fun y22a=>
   some y22a)
def jR (eW:aC->Int->Option (aB × aC)) (n:Nat) (a0:aC) (a1:Int):Option (aB × aC):=
 (eW a0 (i64.wrap (a1+1))).bind fun x2=>
 some (x2.1,x2.2)
def bG:Nat->(aC->Int->Option ((List aB) × aC)) × (aC->Int->Option (aB × aC)) × (aC->Int->Int->Option (aB × aC)) × (aC->Int->Option (aB × aC)) × (aC->Int->Option (aB × aC))
 | 0=>(fun _ _=>none,fun _ _=>none,fun _ _ _=>none,fun _ _=>none,fun _ _=>none)
 | n+1=>(gT (bG n).2.2.2.2 n,nH (bG n).2.2.1 n,lX (bG n).2.2.2.1 (bG n).2.2.1 n,kR (bG n).2.1 (bG n).2.2.2.1 (bG n).1 n,jR (bG n).2.1 n)
def wF (n:Nat):aC->Int->Option ((List aB) × aC):=(bG n).1
def fF (n:Nat):aC->Int->Option (aB × aC):=(bG n).2.1
def Dy (n:Nat):aC->Int->Int->Option (aB × aC):=(bG n).2.2.1
def Cf (n:Nat):aC->Int->Option (aB × aC):=(bG n).2.2.2.1
def AF (n:Nat):aC->Int->Option (aB × aC):=(bG n).2.2.2.2
def lB (n:Nat) (a0:aC) (a1:aB) (a2:Int):Option (aB × aC):=
 (eP n a0).bind fun x3=>
 (bS n x3.2 ([61]:cQ)).bind fun x5=>
 (fF n x5 a2).bind fun x7=>
 (bS n x7.2 ([59]:cQ)).bind fun x9=>
 some (({ a1 with cP:=x3.1,aM:=[x7.1] }:aB),x9)
def lV (n:Nat) (a0:aC) (a1:Int):Option (aB × aC):=
 (fF n a0 (i64.wrap (a1+2))).bind fun x2=>
 some (x2.1,x2.2)
def gA (n:Nat) (a1:Int):Nat->(List aB)->aC->Option ((List aB) × aC)
 | 0,_,_=>none
 | c11+1,v8,v9=>
   if v9.e_ == 0 then
    (lV n v9 a1).bind fun x16=>
    gX (v8.length+[x16.1].length<=1073741824) <|
    (cB n x16.2 ([44]:cQ)).bind fun x21=>
    if !x21.1 then
     some ((v8++[x16.1]),x21.2)
    else
     gA n a1 c11 (v8++[x16.1]) x21.2
   else
    some (v8,v9)
def iP (n:Nat) (a0:aC) (a1:Int):Option ((List aB) × aC):=
 (bS n a0 ([40]:cQ)).bind fun x1=>
 (cB n x1 ([41]:cQ)).bind fun x3=>
 if x3.1=true then
  some ([],x3.2)
 else
  ((gA n a1 n [] x3.2).bind fun y10=>
    some (y10.1,y10.2)).bind fun y6=>
  (bS n y6.2 ([41]:cQ)).bind fun x27=>
  some (y6.1,x27)
def oH (n:Nat) (a0:aC) (a1:aB) (a2:Int):Option (aB × aC):=
 (eP n a0).bind fun x5=>
 ((iZ n x5.2 ([40]:cQ)).bind fun x8=>
   if x8 then
    (iP n x5.2 a2).bind fun x11=>
    some (x11.2,({ a1 with bX:=10,cP:=x5.1,aM:=x11.1 }:aB))
   else
    (cB n x5.2 ([91]:cQ)).bind fun x13=>
    if x13.1=true then
     (fF n x13.2 (i64.wrap (a2+2))).bind fun x16=>
     (bS n x16.2 ([93]:cQ)).bind fun x18=>
     (bS n x18 ([61]:cQ)).bind fun x20=>
     (fF n x20 (i64.wrap (a2+1))).bind fun x22=>
     gX ([x16.1].length+[x22.1].length<=1073741824) <|
     some (x22.2,({ a1 with bX:=9,cP:=x5.1,aM:=([x16.1]++[x22.1]) }:aB))
    else
     (bS n x13.2 ([61]:cQ)).bind fun x25=>
     (fF n x25 (i64.wrap (a2+1))).bind fun x27=>
     some (x27.2,({ a1 with cP:=x5.1,aM:=[x27.1] }:aB))).bind fun y7=>
 (bS n y7.1 ([59]:cQ)).bind fun x32=>
 some (y7.2,x32)
def iB (eS:aC->Int->Option (aB × aC)) (n:Nat) (a1:Int):Nat->aC->aB->Option (aC × aB)
 | 0,_,_=>none
 | c13+1,v10,v11=>
   (if v10.e_ == 0 then
      (iZ n v10 ([125]:cQ)).bind fun x19=>
      some (!x19)
     else
      some false).bind fun y17=>
   if y17 then
    (eS v10 a1).bind fun x25=>
    gX (v11.aM.length+[x25.1].length<=1073741824) <|
    iB eS n a1 c13 x25.2 ({ v11 with aM:=(v11.aM++[x25.1]) }:aB)
   else
    some (v10,v11)
def lZ (eS:aC->Int->Option (aB × aC)) (n:Nat) (a0:aC) (a1:Int):Option (aB × aC):=
 (mP a0 a1).bind fun x2=>
 (fE x2 4).bind fun x4=>
 (bS n x4.2 ([123]:cQ)).bind fun x7=>
 (iB eS n a1 n x7 x4.1).bind fun y12=>
 (bS n y12.1 ([125]:cQ)).bind fun x32=>
 some (y12.2,x32)
def jQ (mV:aC->aB->Int->Option (aB × aC)) (oQ:aC->aB->Int->Option (aB × aC)) (n:Nat) (a0:aC) (a1:Int):Option (aB × aC):=
 (fE a0 8).bind fun x2=>
 ((cB n x2.2 ([108,101,116]:cQ)).bind fun x6=>
   if x6.1=true then
    (lB n x6.2 ({ x2.1 with bX:=5 }:aB) (i64.wrap (a1+1))).bind fun x9=>
    some (.inr (x9.1,x9.2))
   else
    (cB n x6.2 ([118,97,114]:cQ)).bind fun x11=>
    if x11.1=true then
     (lB n x11.2 ({ x2.1 with bX:=6 }:aB) (i64.wrap (a1+1))).bind fun x14=>
     some (.inr (x14.1,x14.2))
    else
     (cB n x11.2 ([97,114,114]:cQ)).bind fun x16=>
     if x16.1=true then
      (eP n x16.2).bind fun x19=>
      (mN n x19.2).bind fun x21=>
      some (.inl (x21.2,({ x2.1 with bX:=7,cP:=x19.1,mM:=x21.1 }:aB)))
     else
      (cB n x16.2 ([114,101,116,117,114,110]:cQ)).bind fun x23=>
      if x23.1=true then
       (fF n x23.2 (i64.wrap (a1+1))).bind fun x26=>
       some (.inl (x26.2,({ x2.1 with bX:=13,aM:=[x26.1] }:aB)))
      else
       (cB n x23.2 ([105,102]:cQ)).bind fun x28=>
       if x28.1=true then
        (mV x28.2 x2.1 a1).bind fun x31=>
        some (.inr (x31.1,x31.2))
       else
        (cB n x28.2 ([102,111,114]:cQ)).bind fun x33=>
        if x33.1=true then
         (oQ x33.2 x2.1 a1).bind fun x36=>
         some (.inr (x36.1,x36.2))
        else
         (oH n x33.2 x2.1 a1).bind fun x38=>
         some (.inr (x38.1,x38.2)):Option ((aC × aB) ⊕ (aB × aC))).bind fun y5=>
 y5.elim (fun y5a=>
  (bS n y5a.1 ([59]:cQ)).bind fun x43=>
  some (y5a.2,x43)) (fun y5a=>
  some y5a)
def lD (eN:aC->Int->Option (aB × aC)) (n:Nat) (a0:aC) (a1:aB) (a2:Int):Option (aB × aC):=
 (fF n a0 (i64.wrap (a2+1))).bind fun x3=>
 (eN x3.2 (i64.wrap (a2+1))).bind fun x5=>
 gX ([x3.1].length+[x5.1].length<=1073741824) <|
 (cB n x5.2 ([101,108,115,101]:cQ)).bind fun x8=>
 if x8.1=true then
  (eN x8.2 (i64.wrap (a2+1))).bind fun x11=>
  gX (([x3.1]++[x5.1]).length+[x11.1].length<=1073741824) <|
  some (({ a1 with bX:=11,aM:=(([x3.1]++[x5.1])++[x11.1]) }:aB),x11.2)
 else
  some (({ a1 with bX:=11,aM:=([x3.1]++[x5.1]) }:aB),x8.2)
def nG (eN:aC->Int->Option (aB × aC)) (n:Nat) (a0:aC) (a1:aB) (a2:Int):Option (aB × aC):=
 (eP n a0).bind fun x3=>
 (bS n x3.2 ([105,110]:cQ)).bind fun x5=>
 (fF n x5 (i64.wrap (a2+1))).bind fun x7=>
 (bS n x7.2 ([46,46]:cQ)).bind fun x9=>
 (fF n x9 (i64.wrap (a2+1))).bind fun x11=>
 gX ([x7.1].length+[x11.1].length<=1073741824) <|
 (eN x11.2 (i64.wrap (a2+1))).bind fun x14=>
 gX (([x7.1]++[x11.1]).length+[x14.1].length<=1073741824) <|
 some (({ a1 with bX:=12,cP:=x3.1,aM:=(([x7.1]++[x11.1])++[x14.1]) }:aB),x14.2)
def dO:Nat->(aC->Int->Option (aB × aC)) × (aC->Int->Option (aB × aC)) × (aC->aB->Int->Option (aB × aC)) × (aC->aB->Int->Option (aB × aC))
 | 0=>(fun _ _=>none,fun _ _=>none,fun _ _ _=>none,fun _ _ _=>none)
 | n+1=>(lZ (dO n).2.1 n,jQ (dO n).2.2.1 (dO n).2.2.2 n,lD (dO n).1 n,nG (dO n).1 n)
def eV (n:Nat):aC->Int->Option (aB × aC):=(dO n).1
def AC (n:Nat):aC->Int->Option (aB × aC):=(dO n).2.1
def Dc (n:Nat):aC->aB->Int->Option (aB × aC):=(dO n).2.2.1
def En (n:Nat):aC->aB->Int->Option (aB × aC):=(dO n).2.2.2
def lC (n:Nat) (a0:aC):Option (aB × aC):=
 (fE a0 2).bind fun x2=>
 (cB n x2.2 ([101,120,112,111,114,116]:cQ)).bind fun x5=>
 if x5.1=true then
  (bS n x5.2 ([102,110]:cQ)).bind fun x8=>
  (eP n x8).bind fun x10=>
  (gI n x10.2).bind fun x12=>
  (cB n x12.2 ([45,62]:cQ)).bind fun x14=>
  if x14.1=true then
   (cB n x14.2 ([117,51,50]:cQ)).bind fun x17=>
   if x17.1=true then
    (eV n x17.2 1).bind fun x20=>
    gX (x12.1.length+[x20.1].length<=1073741824) <|
    some (({ x2.1 with cP:=x10.1,mM:=(orK .u32 1 2),aM:=(x12.1++[x20.1]) }:aB),x20.2)
   else
    (bS n x17.2 ([117,54,52]:cQ)).bind fun x25=>
    (eV n x25 1).bind fun x27=>
    gX (x12.1.length+[x27.1].length<=1073741824) <|
    some (({ x2.1 with cP:=x10.1,mM:=(orK .u32 1 4),aM:=(x12.1++[x27.1]) }:aB),x27.2)
  else
   (eV n x14.2 1).bind fun x32=>
   gX (x12.1.length+[x32.1].length<=1073741824) <|
   some (({ x2.1 with cP:=x10.1,mM:=1,aM:=(x12.1++[x32.1]) }:aB),x32.2)
 else
  (bS n x5.2 ([102,110]:cQ)).bind fun x37=>
  (eP n x37).bind fun x39=>
  (gI n x39.2).bind fun x41=>
  (cB n x41.2 ([45,62]:cQ)).bind fun x43=>
  if x43.1=true then
   (cB n x43.2 ([117,51,50]:cQ)).bind fun x46=>
   if x46.1=true then
    (eV n x46.2 1).bind fun x49=>
    gX (x41.1.length+[x49.1].length<=1073741824) <|
    some (({ x2.1 with cP:=x39.1,mM:=(orK .u32 x2.1.mM 2),aM:=(x41.1++[x49.1]) }:aB),x49.2)
   else
    (bS n x46.2 ([117,54,52]:cQ)).bind fun x54=>
    (eV n x54 1).bind fun x56=>
    gX (x41.1.length+[x56.1].length<=1073741824) <|
    some (({ x2.1 with cP:=x39.1,mM:=(orK .u32 x2.1.mM 4),aM:=(x41.1++[x56.1]) }:aB),x56.2)
  else
   (eV n x43.2 1).bind fun x61=>
   gX (x41.1.length+[x61.1].length<=1073741824) <|
   some (({ x2.1 with cP:=x39.1,aM:=(x41.1++[x61.1]) }:aB),x61.2)
def pI (n:Nat):Nat->aC->aB->Option (aC × aB)
 | 0,_,_=>none
 | c13+1,v10,v11=>
   (if v10.e_ == 0 then
      (eU v10).bind fun x19=>
      some (x19.bX != 4)
     else
      some false).bind fun y17=>
   if y17 then
    (lC n v10).bind fun x25=>
    gX (v11.aM.length+[x25.1].length<=1073741824) <|
    pI n c13 x25.2 ({ v11 with aM:=(v11.aM++[x25.1]) }:aB)
   else
    some (v10,v11)
def wT (n:Nat) (a0:cQ):Option (aB × Int × Int):=
 (zE n a0).bind fun x2=>
 if x2.2.1 != 0 then
  some ((aB.mk 0 0 [] 0 []),x2.2.1,x2.2.2)
 else
  (fE (aC.mk x2.1 0 0 0 0) 1).bind fun x6=>
  (pI n n x6.2 x6.1).bind fun y12=>
  if y12.1.e_ != 0 then
   some ((aB.mk 0 0 [] 0 []),y12.1.e_,y12.1.Av)
  else
   some (y12.2,0,0)
def xC (a0:aR) (a1:cQ):Option Bool:=
 some (decide (a0.jX=a1))
def cU (a0:(List aR)) (a1:cQ):Nat->Int->Option (Unit ⊕ Int)
 | 0,_=>none
 | c4+1,v2=>
   if decide (v2<(a0.length:Int)) then
    (bV a0 v2).bind fun x9=>
    (xC x9 a1).bind fun x10=>
    if x10 then
     some (.inr v2)
    else
     cU a0 a1 c4 (i64.wrap (v2+1))
   else
    some (.inl ())
def eY (n:Nat) (a0:(List aR)) (a1:cQ):Option Int:=
 (cU a0 a1 n 0).bind fun y3=>
 y3.elim (fun y3a=>
  some (-1:Int)) (fun y3a=>
  some y3a)
def nU (n:Nat) (a0:aN) (a1:cQ):Option (Int × Bool):=
 (eY n a0.bD a1).bind fun x3=>
 some ((max x3 0),(decide (0<=x3)))
def qD (a0:aD) (a1:aI) (a2:Int) (a3:Int):Option aI:=
 if a1.e_ == 0 then
  some (aI.mk a2 a3)
 else
  some a1
def aX (a0:aD) (a1:aI) (a2:Bool) (a3:Int) (a4:Int):Option aI:=
 if !a2 then
  (qD a0 a1 a3 a4).bind fun x2=>
  some x2
 else
  some a1
def qQ (a0:cQ):Nat->Int->Option (Unit ⊕ Int)
 | 0,_=>none
 | c4+1,v2=>
   if decide (v2<5) then
    (bV cX v2).bind fun x9=>
    if decide (x9.Np=a0) then
     some (.inr x9.NK)
    else
     qQ a0 c4 (i64.wrap (v2+1))
   else
    some (.inl ())
def uE (n:Nat) (a0:cQ):Option Int:=
 (qQ a0 n 0).bind fun y3=>
 y3.elim (fun y3a=>
  some 0) (fun y3a=>
  some y3a)
def vO (a0:Int):Option Int:=
 if (vT .u32 a0 2) != 0 then
  some 2
 else
  if (vT .u32 a0 4) != 0 then
   some 3
  else
   some 0
def iV (n:Nat) (a2:aB):Nat->Int->aD->aI->Option (aD × aI)
 | 0,_,_,_=>none
 | c9+1,v5,v6,v7=>
   if decide (v5<(a2.aM.length:Int)) then
    (bV a2.aM v5).bind fun x14=>
    (nU n v6.p_ x14.cP).bind fun x20=>
    (if !x20.2 then
       (uE n x14.cP).bind fun x25=>
       (aX v6 v7 (x25 == 0) 131 x14.fR).bind fun x26=>
       some x26
      else
       (aX v6 v7 false 131 x14.fR).bind fun x29=>
       some x29).bind fun y23=>
    (vO x14.mM).bind fun x34=>
    gX (v6.f_<0) <|
    gX (v6.p_.bD.length+1<=1073741824) <|
    iV n a2 c9 (i64.wrap (v5+1)) ({ v6 with p_:=⟨(v6.p_.bD++[(aR.mk x14.cP ((vT .u32 x14.mM 1) != 0) x34 0 [] [])])⟩ }:aD) y23
   else
    some (v6,v7)
def nJ (n:Nat) (a0:aD) (a1:aI) (a2:aB):Option (aD × aI):=
 (aX a0 a1 (decide ((a2.aM.length:Int)<=64)) 136 a2.fR).bind fun x2=>
 (iV n a2 n 0 a0 x2).bind fun y8=>
 gX (0<=(a2.aM.length:Int)/\(a2.aM.length:Int)<=1073741824) <|
 some (({ y8.1 with cK:=(List.replicate a2.aM.length []) }:aD),y8.2)
def gY (x1:aR):Nat->Int->aD->Option aD
 | 0,_,_=>none
 | c31+1,v28,v29=>
   if decide (v28<x1.aW) then
    gX (v29.bJ.length+1<=1073741824) <|
    gY x1 c31 (i64.wrap (v28+1)) ({ v29 with bJ:=(v29.bJ++[v28]) }:aD)
   else
    some v29
def kP (n:Nat) (a0:aD) (a1:aI) (a2:Int):Option (aD × aI):=
 (bV a0.p_.bD a2).bind fun x1=>
 (gY x1 n 0 ({ a0 with f_:=a2,bJ:=[],gB:=a2 }:aD)).bind fun y30=>
 some (y30,a1)
def uR (a0:Int):Option Bool:=
 (if decide (1<=a0) then
    if decide (a0<=255) then
     some true
    else
     if decide (255<a0) then
      if decide (a0<=1024) then
       some ((a0.tmod 4) == 0)
      else
       some false
     else
      some false
   else
    if decide (255<a0) then
     if decide (a0<=1024) then
      some ((a0.tmod 4) == 0)
     else
      some false
    else
     some false).bind fun y1=>
 some y1
def jK (a0:aD) (a2:cQ):Nat->Int->Option (Unit ⊕ Int)
 | 0,_=>none
 | c5+1,v3=>
   if decide (0<=v3) then
    (bV a0.p_.bD a0.f_).bind fun x10=>
    (bV a0.bJ v3).bind fun x13=>
    (bV x10.aV x13).bind fun x14=>
    if decide (x14.jX=a2) then
     some (.inr x13)
    else
     jK a0 a2 c5 (i64.wrap (v3 - 1))
   else
    some (.inl ())
def lI (n:Nat) (a0:aD) (a1:aI) (a2:cQ):Option Int:=
 (jK a0 a2 n (i64.wrap ((a0.bJ.length:Int) - 1))).bind fun y4=>
 y4.elim (fun y4a=>
  some (-1:Int)) (fun y4a=>
  some y4a)
def eI (n:Nat) (a0:aD) (a1:aI) (a2:bB) (a3:Int):Option (Int × aD × aI):=
 (lI n a0 a1 a2.jX).bind fun x2=>
 (aX a0 a1 (decide (x2<0)) 131 a3).bind fun x3=>
 (bV a0.p_.bD a0.f_).bind fun x6=>
 (aX a0 x3 (decide ((x6.aV.length:Int)<250)) 136 a3).bind fun x9=>
 if x9.e_ != 0 then
  some ((-1:Int),a0,x9)
 else
  gX (x6.aV.length+1<=1073741824) <|
  gX (a0.bJ.length+1<=1073741824) <|
  some ((x6.aV.length:Int),({ a0 with p_:=⟨(a0.p_.bD.set a0.f_.toNat { x6 with aV:=(x6.aV++[a2]) })⟩,bJ:=(a0.bJ++[(x6.aV.length:Int)]) }:aD),x9)
def iL (n:Nat) (a2:(List aB)):Nat->Int->aD->aI->Option (aD × aI)
 | 0,_,_,_=>none
 | c6+1,v2,v3,v4=>
   if decide (v2<(a2.length:Int)) then
    ((bV a2 v2).bind fun x12=>
      (if (i64.wrap x12.mM) == 4 then
         some (decide (0<(x12.aM.length:Int)))
        else
         some false).bind fun y19=>
      if y19 then
       (bV x12.aM 0).bind fun x25=>
       (uR (i64.wrap x25.mM)).bind fun x31=>
       (aX v3 v4 x31 136 x12.fR).bind fun x32=>
       (eI n v3 x32 (bB.mk x12.cP (i64.wrap x12.mM) (i64.wrap x25.mM)) x12.fR).bind fun x35=>
       some (x35.2.1,x35.2.2)
      else
       (eI n v3 v4 (bB.mk x12.cP (i64.wrap x12.mM) 0) x12.fR).bind fun x37=>
       some (x37.2.1,x37.2.2)).bind fun y11=>
    iL n a2 c6 (i64.wrap (v2+1)) y11.1 y11.2
   else
    some (v3,v4)
def pE (n:Nat) (a0:aD) (a1:aI) (a2:(List aB)):Option (aD × aI):=
 (iL n a2 n 0 a0 a1).bind fun y5=>
 (bV y5.1.p_.bD y5.1.f_).bind fun x61=>
 some (({ y5.1 with p_:=⟨(y5.1.p_.bD.set y5.1.f_.toNat { x61 with aW:=(x61.aV.length:Int) })⟩ }:aD),y5.2)
def mQ (a0:aR):Nat->Int->Int->Option Int
 | 0,_,_=>none
 | c8+1,v5,v6=>
   if decide (v6<((a0.aV.take a0.aW.toNat).length:Int)) then
    ((bV (a0.aV.take a0.aW.toNat) v6).bind fun x14=>
      if x14.bX == 3 then
       some (i64.wrap ((i64.wrap (v5+(i64.wrap ((v5.tmod 2)+1))))+1))
      else
       some (i64.wrap (v5+1))).bind fun y13=>
    mQ a0 c8 y13 (i64.wrap (v6+1))
   else
    some v5
def rH (n:Nat) (a0:aR):Option Int:=
 gX (0<=a0.aW/\a0.aW<=(a0.aV.length:Int)) <|
 (mQ a0 n 0 0).bind fun y7=>
 some y7
def jV (n:Nat) (a0:aD) (a1:aI) (a2:Int) (a3:aB):Option (aD × aI):=
 (kP n a0 a1 a2).bind fun x2=>
 gX (0<=(max (i64.wrap ((a3.aM.length:Int) - 1)) 0)/\(max (i64.wrap ((a3.aM.length:Int) - 1)) 0)<=(a3.aM.length:Int)) <|
 (pE n x2.1 x2.2 (a3.aM.take (max (i64.wrap ((a3.aM.length:Int) - 1)) 0).toNat)).bind fun x4=>
 if x4.2.e_ == 0 then
  ((bV x4.1.p_.bD x4.1.f_).bind fun x10=>
    if !x10.iG then
     (aX x4.1 x4.2 true 136 a3.fR).bind fun x27=>
     some x27
    else
     (rH n x10).bind fun x29=>
     (aX x4.1 x4.2 (decide (x29<=4)) 136 a3.fR).bind fun x30=>
     some x30).bind fun y9=>
  some (x4.1,y9)
 else
  some (x4.1,x4.2)
def fL (a0:aD) (a1:aI) (a2:Int):Option Int:=
 if decide (a2<0) then
  some 0
 else
  (bV a0.p_.bD a0.f_).bind fun x2=>
  (bV x2.aV a2).bind fun x5=>
  some x5.bX
def gV (n:Nat) (a0:aD) (a1:aI) (a2:aB):Option (Int × aI):=
 (lI n a0 a1 a2.cP).bind fun x2=>
 (aX a0 a1 (decide (0<=x2)) 130 a2.fR).bind fun x4=>
 some (x2,x4)
def tH (a0:Int) (a1:Int):Option Int:=
 (if a0 == a1 then
    if decide (1<=a0) then
     some (decide (a0<=3))
    else
     some false
   else
    some false).bind fun y1=>
 if y1 then
  some a0
 else
  (if a0 == 1 then
     if a1 == 2 then
      some true
     else
      if a0 == 2 then
       some (a1 == 1)
      else
       some false
    else
     if a0 == 2 then
      some (a1 == 1)
     else
      some false).bind fun y8=>
  if y8 then
   some 2
  else
   some 0
def cT (a0:aD) (a1:aI) (a2:aG) (a3:Int):Option (aG × aI):=
 (aX a0 a1 (a3 != 0) 132 a2.fR).bind fun x3=>
 some (({ a2 with cM:=a3 }:aG),x3)
def hY (a0:aD) (a1:aI) (a2:aG) (a3:aG) (a4:aG):Option (aG × aI):=
 (aX a0 a1 (a4.cM == 1) 133 a4.fR).bind fun x5=>
 if a3.cM == 3 then
  (if decide (a4.kL=([110,117,109]:cQ)) then
     (aX a0 x5 (decide (a4.N_<=63)) 132 a2.fR).bind fun x10=>
     some x10
    else
     (aX a0 x5 false 132 a2.fR).bind fun x12=>
     some x12).bind fun y8=>
  (cT a0 y8 a2 a3.cM).bind fun x17=>
  some (x17.1,x17.2)
 else
  (cT a0 x5 a2 a3.cM).bind fun x19=>
  some (x19.1,x19.2)
def tG (a0:Int):Option Int:=
 if a0 == 1 then
  some 2
 else
  some a0
def qI (a0:Int):Option Bool:=
 (if a0 == 1 then
    some true
   else
    some (a0 == 2)).bind fun y1=>
 some y1
def mI (a0:aD) (a1:aI) (a2:aG):Option Int:=
 (bV a2.aM 1).bind fun x2=>
 (bV a2.aM 2).bind fun x3=>
 (tH x2.cM x3.cM).bind fun x4=>
 ((bV a2.aM 0).bind fun x17=>
   (qI x17.cM).bind fun x18=>
   if !x18 then
    some true
   else
    some (x4 == 0)).bind fun y16=>
 if y16 then
  some 0
 else
  (tG x4).bind fun x30=>
  some x30
def mG (oA:aD->aI->aB->aG->Option (aG × aI)) (mX:aD->aI->aB->aG->Option (aG × aI)) (lT:aD->aI->aB->aG->Option (aG × aI)) (lN:aD->aI->aB->aG->Option (aG × aI)) (n:Nat) (a0:aD) (a1:aI) (a2:aB):Option (aG × aI):=
 if a2.bX == 14 then
  some ((aG.mk ([110,117,109]:cQ) 1 a2.mM (-1:Int) [] a2.fR),a1)
 else
  if a2.bX == 15 then
   (gV n a0 a1 a2).bind fun x6=>
   (fL a0 x6.2 x6.1).bind fun x8=>
   (aX a0 x6.2 (x8 != 4) 132 a2.fR).bind fun x10=>
   some ((aG.mk ([118,97,114]:cQ) x8 0 x6.1 [] a2.fR),x10)
  else
   if a2.bX == 16 then
    (oA a0 a1 a2 (aG.mk [] 0 0 (-1:Int) [] a2.fR)).bind fun x13=>
    some (x13.1,x13.2)
   else
    if a2.bX == 18 then
     (mX a0 a1 a2 (aG.mk [] 0 0 (-1:Int) [] a2.fR)).bind fun x16=>
     some (x16.1,x16.2)
    else
     if a2.bX == 19 then
      (lT a0 a1 a2 (aG.mk [] 0 0 (-1:Int) [] a2.fR)).bind fun x19=>
      some (x19.1,x19.2)
     else
      (lN a0 a1 a2 (aG.mk [] 0 0 (-1:Int) [] a2.fR)).bind fun x21=>
      some (x21.1,x21.2)
def mF (dN:aD->aI->aB->Option (aG × aI)) (n:Nat) (a0:aD) (a1:aI) (a2:aB) (a3:aG):Option (aG × aI):=
 (bV a2.aM 0).bind fun x4=>
 (dN a0 a1 x4).bind fun x5=>
 (gV n a0 x5.2 a2).bind fun x13=>
 (fL a0 x13.2 x13.1).bind fun x15=>
 (aX a0 x13.2 (x15 == 4) 132 a2.fR).bind fun x16=>
 (aX a0 x16 (x5.1.cM == 1) 133 x5.1.fR).bind fun x19=>
 (if x19.e_ == 0 then
    some (decide (x5.1.kL=([110,117,109]:cQ)))
   else
    some false).bind fun y21=>
 if y21 then
  (bV a0.p_.bD a0.f_).bind fun x27=>
  (bV x27.aV x13.1).bind fun x30=>
  (aX a0 x19 (decide ((i64.wrap x5.1.N_)<x30.jB)) 137 x5.1.fR).bind fun x31=>
  some (({ a3 with kL:=([105,110,100,101,120]:cQ),cM:=2,lO:=x13.1,aM:=[x5.1] }:aG),x31)
 else
  some (({ a3 with kL:=([105,110,100,101,120]:cQ),cM:=2,lO:=x13.1,aM:=[x5.1] }:aG),x19)
def lF (dL:aD->aI->(List aB)->Option ((List aG) × aI)) (n:Nat) (a0:aD) (a1:aI) (a2:aB) (a3:aG):Option (aG × aI):=
 (dL a0 a1 a2.aM).bind fun x4=>
 if decide (a2.cP=([45]:cQ)) then
  (bV x4.1 0).bind fun x7=>
  some (({ a3 with kL:=([110,101,103]:cQ),cM:=x7.cM,aM:=x4.1 }:aG),x4.2)
 else
  (bV x4.1 0).bind fun x13=>
  some (({ a3 with kL:=([110,111,116]:cQ),cM:=x13.cM,aM:=x4.1 }:aG),x4.2)
def kU (dL:aD->aI->(List aB)->Option ((List aG) × aI)) (n:Nat) (a0:aD) (a1:aI) (a2:aB) (a3:aG):Option (aG × aI):=
 (dL a0 a1 a2.aM).bind fun x4=>
 (bV x4.1 0).bind fun x6=>
 (bV x4.1 1).bind fun x9=>
 (tH x6.cM x9.cM).bind fun x20=>
 if decide (a2.cP=([47]:cQ)) then
  (aX a0 x4.2 (x6.cM == 1) 133 x6.fR).bind fun x23=>
  (aX a0 x23 (x9.cM == 1) 133 x9.fR).bind fun x25=>
  (cT a0 x25 ({ a3 with kL:=a2.cP,aM:=x4.1 }:aG) 1).bind fun x27=>
  some (x27.1,x27.2)
 else
  if decide (a2.cP=([37]:cQ)) then
   (aX a0 x4.2 (x6.cM == 1) 133 x6.fR).bind fun x30=>
   (aX a0 x30 (x9.cM == 1) 133 x9.fR).bind fun x32=>
   (cT a0 x32 ({ a3 with kL:=a2.cP,aM:=x4.1 }:aG) 1).bind fun x34=>
   some (x34.1,x34.2)
  else
   if decide (a2.cP=([60,60]:cQ)) then
    (hY a0 x4.2 ({ a3 with kL:=a2.cP,aM:=x4.1 }:aG) x6 x9).bind fun x37=>
    some (x37.1,x37.2)
   else
    if decide (a2.cP=([62,62]:cQ)) then
     (hY a0 x4.2 ({ a3 with kL:=a2.cP,aM:=x4.1 }:aG) x6 x9).bind fun x40=>
     some (x40.1,x40.2)
    else
     if decide (a2.cP=([60,60,60]:cQ)) then
      (hY a0 x4.2 ({ a3 with kL:=a2.cP,aM:=x4.1 }:aG) x6 x9).bind fun x43=>
      some (x43.1,x43.2)
     else
      if decide (a2.cP=([42]:cQ)) then
       (aX a0 x4.2 (x20 != 3) 132 a2.fR).bind fun x46=>
       (cT a0 x46 ({ a3 with kL:=a2.cP,aM:=x4.1 }:aG) x20).bind fun x48=>
       some (x48.1,x48.2)
      else
       if decide (a2.cP=([61,61]:cQ)) then
        if x20 == 3 then
         (cT a0 x4.2 ({ a3 with kL:=a2.cP,aM:=x4.1 }:aG) 2).bind fun x52=>
         some (x52.1,x52.2)
        else
         (cT a0 x4.2 ({ a3 with kL:=a2.cP,aM:=x4.1 }:aG) x20).bind fun x54=>
         some (x54.1,x54.2)
       else
        if decide (a2.cP=([60]:cQ)) then
         if x20 == 3 then
          (cT a0 x4.2 ({ a3 with kL:=a2.cP,aM:=x4.1 }:aG) 2).bind fun x58=>
          some (x58.1,x58.2)
         else
          (cT a0 x4.2 ({ a3 with kL:=a2.cP,aM:=x4.1 }:aG) x20).bind fun x60=>
          some (x60.1,x60.2)
        else
         (cT a0 x4.2 ({ a3 with kL:=a2.cP,aM:=x4.1 }:aG) x20).bind fun x62=>
         some (x62.1,x62.2)
def kG (dL:aD->aI->(List aB)->Option ((List aG) × aI)) (n:Nat) (a0:aD) (a1:aI) (a2:aB) (a3:aG):Option (aG × aI):=
 (uE n a2.cP).bind fun x4=>
 (aX a0 a1 (decide (0<x4)) 130 a2.fR).bind fun x6=>
 (aX a0 x6 ((a2.aM.length:Int) == x4) 136 a2.fR).bind fun x8=>
 (dL a0 x8 a2.aM).bind fun x10=>
 if x10.2.e_ != 0 then
  some (({ a3 with kL:=a2.cP,aM:=x10.1 }:aG),x10.2)
 else
  (bV x10.1 0).bind fun x13=>
  if decide (a2.cP=([115,101,108,101,99,116]:cQ)) then
   (mI a0 x10.2 ({ a3 with kL:=a2.cP,aM:=x10.1 }:aG)).bind fun x20=>
   (cT a0 x10.2 ({ a3 with kL:=a2.cP,aM:=x10.1 }:aG) x20).bind fun x21=>
   some (x21.1,x21.2)
  else
   if decide (a2.cP=([108,111,110,103]:cQ)) then
    (qI x13.cM).bind fun x25=>
    (aX a0 x10.2 x25 132 a2.fR).bind fun x26=>
    (cT a0 x26 ({ a3 with kL:=a2.cP,aM:=x10.1 }:aG) 3).bind fun x29=>
    some (x29.1,x29.2)
   else
    if decide (a2.cP=([119,105,100,101]:cQ)) then
     ((qI x13.cM).bind fun x33=>
       if x33 then
        (bV x10.1 1).bind fun x36=>
        (qI x36.cM).bind fun x37=>
        (aX a0 x10.2 x37 132 a2.fR).bind fun x38=>
        some x38
       else
        (aX a0 x10.2 false 132 a2.fR).bind fun x46=>
        some x46).bind fun y32=>
     (cT a0 y32 ({ a3 with kL:=a2.cP,aM:=x10.1 }:aG) 3).bind fun x51=>
     some (x51.1,x51.2)
    else
     (aX a0 x10.2 (x13.cM == 3) 132 a2.fR).bind fun x53=>
     (cT a0 x53 ({ a3 with kL:=a2.cP,aM:=x10.1 }:aG) 2).bind fun x55=>
     some (x55.1,x55.2)
def kD (dN:aD->aI->aB->Option (aG × aI)) (a2:(List aB)) (a0:aD):Nat->(List aG)->Int->aI->Option ((List aG) × aI)
 | 0,_,_,_=>none
 | c6+1,v2,v3,v4=>
   if decide (v3<(a2.length:Int)) then
    (bV a2 v3).bind fun x11=>
    (dN a0 v4 x11).bind fun x17=>
    gX (v2.length+[x17.1].length<=1073741824) <|
    kD dN a2 a0 c6 (v2++[x17.1]) (i64.wrap (v3+1)) x17.2
   else
    some (v2,v4)
def nO (dN:aD->aI->aB->Option (aG × aI)) (n:Nat) (a0:aD) (a1:aI) (a2:(List aB)):Option ((List aG) × aI):=
 (kD dN a2 a0 n [] 0 a1).bind fun y5=>
 some (y5.1,y5.2)
def cF:Nat->(aD->aI->aB->Option (aG × aI)) × (aD->aI->aB->aG->Option (aG × aI)) × (aD->aI->aB->aG->Option (aG × aI)) × (aD->aI->aB->aG->Option (aG × aI)) × (aD->aI->aB->aG->Option (aG × aI)) × (aD->aI->(List aB)->Option ((List aG) × aI))
 | 0=>(fun _ _ _=>none,fun _ _ _ _=>none,fun _ _ _ _=>none,fun _ _ _ _=>none,fun _ _ _ _=>none,fun _ _ _=>none)
 | n+1=>(mG (cF n).2.1 (cF n).2.2.1 (cF n).2.2.2.1 (cF n).2.2.2.2.1 n,mF (cF n).1 n,lF (cF n).2.2.2.2.2 n,kU (cF n).2.2.2.2.2 n,kG (cF n).2.2.2.2.2 n,nO (cF n).1 n)
def gW (n:Nat):aD->aI->aB->Option (aG × aI):=(cF n).1
def DB (n:Nat):aD->aI->aB->aG->Option (aG × aI):=(cF n).2.1
def De (n:Nat):aD->aI->aB->aG->Option (aG × aI):=(cF n).2.2.1
def Cu (n:Nat):aD->aI->aB->aG->Option (aG × aI):=(cF n).2.2.2.1
def By (n:Nat):aD->aI->aB->aG->Option (aG × aI):=(cF n).2.2.2.2.1
def Ep (n:Nat):aD->aI->(List aB)->Option ((List aG) × aI):=(cF n).2.2.2.2.2
def fI (n:Nat) (a0:aD) (a1:aI) (a2:aB):Option (aG × aI):=
 (gW n a0 a1 a2).bind fun x3=>
 (aX a0 x3.2 (x3.1.cM == 1) 133 a2.fR).bind fun x6=>
 some (x3.1,x6)
def kS (n:Nat) (a0:aD) (a1:aI) (a2:aB):Option (Int × aI):=
 (nU n a0.p_ a2.cP).bind fun x2=>
 (aX a0 a1 x2.2 130 a2.fR).bind fun x5=>
 some (x2.1,x5)
def mD (a0:aD) (a1:aI) (a2:Int):Option (List bB):=
 (bV a0.p_.bD a2).bind fun x1=>
 gX (0<=x1.aW/\x1.aW<=(x1.aV.length:Int)) <|
 some (x1.aV.take (x1.aW.toNat))
def sT (a0:Int) (a1:Int):Option Bool:=
 (if a0 == a1 then
    some true
   else
    if a0 == 1 then
     some (a1 == 2)
    else
     some false).bind fun y1=>
 some y1
def nM (n:Nat) (a0:aD) (a1:aI) (a2:aB) (a3:Int):Option (aG × aI):=
 (aX a0 a1 (a2.bX == 15) 132 a2.fR).bind fun x3=>
 (gV n a0 x3 a2).bind fun x5=>
 ((fL a0 x5.2 x5.1).bind fun x8=>
   if x8 == 4 then
    (bV a0.p_.bD a0.f_).bind fun x11=>
    (bV x11.aV (max x5.1 0)).bind fun x14=>
    (aX a0 x5.2 (x14.jB == a3) 132 a2.fR).bind fun x15=>
    some x15
   else
    (aX a0 x5.2 false 132 a2.fR).bind fun x40=>
    some x40).bind fun y7=>
 some ((aG.mk ([118,97,114]:cQ) 4 0 x5.1 [] a2.fR),y7)
def kV (n:Nat) (a0:aD) (a1:aI) (a2:aB) (a3:bB):Option (aG × aI):=
 if a3.bX == 4 then
  (nM n a0 a1 a2 a3.jB).bind fun x5=>
  some (x5.1,x5.2)
 else
  if a3.bX == 1 then
   (fI n a0 a1 a2).bind fun x8=>
   some (x8.1,x8.2)
  else
   (gW n a0 a1 a2).bind fun x10=>
   (sT x10.1.cM a3.bX).bind fun x13=>
   (aX a0 x10.2 x13 132 a2.fR).bind fun x14=>
   some (x10.1,x14)
def jM (n:Nat) (a2:aB) (x20:(List bB)) (a0:aD) (x7:(List Int)) (x4:(Int × aI)):Nat->Int->aI->aH->Option (aI × aH)
 | 0,_,_,_=>none
 | c29+1,v25,v26,v27=>
   if decide (v25<(a2.aM.length:Int)) then
    (bV a2.aM v25).bind fun x34=>
    if v26.e_ != 0 then
     some (v26,v27)
    else
     (bV x20 v25).bind fun x41=>
     (kV n ({ a0 with cK:=(a0.cK.set a0.gB.toNat (x7++[x4.1])) }:aD) v26 x34 x41).bind fun x42=>
     gX (v27.aM.length+[x42.1].length<=1073741824) <|
     jM n a2 x20 a0 x7 x4 c29 (i64.wrap (v25+1)) x42.2 ({ v27 with aM:=(v27.aM++[x42.1]) }:aH)
   else
    some (v26,v27)
def iI (n:Nat) (a0:aD) (a1:aI) (a2:aB) (a3:aH) (a4:Int):Option (aH × aD × aI):=
 (kS n a0 a1 a2).bind fun x4=>
 if x4.2.e_ != 0 then
  some (({ a3 with kL:=([99,97,108,108]:cQ),lO:=a4,pP:=x4.1,aM:=[] }:aH),a0,x4.2)
 else
  (bV a0.cK a0.gB).bind fun x7=>
  gX (x7.length+1<=1073741824) <|
  (mD ({ a0 with cK:=(a0.cK.set a0.gB.toNat (x7++[x4.1])) }:aD) x4.2 x4.1).bind fun x20=>
  (aX ({ a0 with cK:=(a0.cK.set a0.gB.toNat (x7++[x4.1])) }:aD) x4.2 ((a2.aM.length:Int) == (x20.length:Int)) 136 a2.fR).bind fun x22=>
  (jM n a2 x20 a0 x7 x4 n 0 x22 ({ a3 with kL:=([99,97,108,108]:cQ),lO:=a4,pP:=x4.1,aM:=[] }:aH)).bind fun y28=>
  some (y28.2,({ a0 with cK:=(a0.cK.set a0.gB.toNat (x7++[x4.1])) }:aD),y28.1)
def iO (n:Nat) (a0:aD) (a1:aI) (a2:aB):Option Bool:=
 (if a2.bX == 17 then
    (uE n a2.cP).bind fun x4=>
    some (x4 == 0)
   else
    some false).bind fun y2=>
 some y2
def nL (n:Nat) (a0:aD) (a1:aI) (a2:aB) (a3:aH):Option (aH × aD × aI):=
 (bV a2.aM 0).bind fun x4=>
 (iO n a0 a1 x4).bind fun x5=>
 if x5 then
  (iI n a0 a1 x4 ({ a3 with aM:=[] }:aH) (-1:Int)).bind fun x13=>
  if x13.2.2.e_ != 0 then
   some (({ x13.1 with fR:=a2.fR }:aH),x13.2.1,x13.2.2)
  else
   (bV x13.2.1.p_.bD x13.1.pP).bind fun x16=>
   (aX x13.2.1 x13.2.2 (x16.cR != 0) 132 a2.fR).bind fun x30=>
   (eI n x13.2.1 x30 (bB.mk a2.cP x16.cR 0) a2.fR).bind fun x32=>
   some (({ x13.1 with lO:=x32.1,fR:=a2.fR }:aH),x32.2.1,x32.2.2)
 else
  (gW n a0 a1 x4).bind fun x34=>
  (tG x34.1.cM).bind fun x37=>
  (eI n a0 x34.2 (bB.mk a2.cP x37 0) a2.fR).bind fun x38=>
  some (({ a3 with kL:=([118,97,114]:cQ),lO:=x38.1,aM:=[x34.1] }:aH),x38.2.1,x38.2.2)
def lH (n:Nat) (a0:aD) (a1:aI) (a2:aB):Option (Int × aI):=
 (gV n a0 a1 a2).bind fun x2=>
 (fL a0 x2.2 x2.1).bind fun x4=>
 (if x4 == 2 then
    (aX a0 x2.2 true 132 a2.fR).bind fun x8=>
    some x8
   else
    (aX a0 x2.2 (x4 == 3) 132 a2.fR).bind fun x10=>
    some x10).bind fun y6=>
 some (x2.1,y6)
def oX (n:Nat) (a0:aD) (a1:aI) (a2:aB) (a3:aH):Option (aH × aD × aI):=
 (lH n a0 a1 a2).bind fun x4=>
 (bV a2.aM 0).bind fun x6=>
 (iO n a0 x4.2 x6).bind fun x7=>
 if x7 then
  (iI n a0 x4.2 x6 ({ a3 with aM:=[] }:aH) x4.1).bind fun x15=>
  if x15.2.2.e_ == 0 then
   (fL x15.2.1 x15.2.2 x4.1).bind fun x18=>
   (bV x15.2.1.p_.bD x15.1.pP).bind fun x19=>
   (aX x15.2.1 x15.2.2 (x19.cR == x18) 132 a2.fR).bind fun x21=>
   some (({ x15.1 with fR:=a2.fR }:aH),x15.2.1,x21)
  else
   some (({ x15.1 with fR:=a2.fR }:aH),x15.2.1,x15.2.2)
 else
  (gW n a0 x4.2 x6).bind fun x36=>
  (fL a0 x36.2 x4.1).bind fun x39=>
  (sT x36.1.cM x39).bind fun x40=>
  (aX a0 x36.2 x40 132 a2.fR).bind fun x41=>
  some (({ a3 with kL:=([115,101,116]:cQ),lO:=x4.1,aM:=[x36.1] }:aH),a0,x41)
def nK (n:Nat) (a0:aD) (a1:aI) (a2:aB) (a3:Int):Option (aG × aI):=
 (fI n a0 a1 a2).bind fun x3=>
 (if x3.2.e_ == 0 then
    some (decide (x3.1.kL=([110,117,109]:cQ)))
   else
    some false).bind fun y6=>
 if y6 then
  (bV a0.p_.bD a0.f_).bind fun x12=>
  (bV x12.aV a3).bind fun x15=>
  (aX a0 x3.2 (decide ((i64.wrap x3.1.N_)<x15.jB)) 137 a2.fR).bind fun x16=>
  some (x3.1,x16)
 else
  some (x3.1,x3.2)
def oY (n:Nat) (a0:aD) (a1:aI) (a2:aB) (a3:aH):Option (aH × aI):=
 (gV n a0 a1 a2).bind fun x4=>
 (fL a0 x4.2 x4.1).bind fun x6=>
 (aX a0 x4.2 (x6 == 4) 132 a2.fR).bind fun x7=>
 (bV a2.aM 0).bind fun x10=>
 (nK n a0 x7 x10 x4.1).bind fun x11=>
 (bV a2.aM 1).bind fun x19=>
 (gW n a0 x11.2 x19).bind fun x20=>
 (sT x20.1.cM 2).bind fun x28=>
 (aX a0 x20.2 x28 132 a2.fR).bind fun x29=>
 some (({ a3 with kL:=([112,117,116]:cQ),lO:=x4.1,aM:=[x11.1,x20.1] }:aH),x29)
def oK (n:Nat) (a0:aD) (a1:aI) (a2:aB) (a3:aH) (a4:Bool):Option (aH × aD × aI):=
 (if a4 then
    (bV a0.p_.bD a0.f_).bind fun x6=>
    (aX a0 a1 (x6.cR != 0) 135 a2.fR).bind fun x9=>
    some x9
   else
    (aX a0 a1 false 135 a2.fR).bind fun x24=>
    some x24).bind fun y4=>
 (if y4.e_ == 0 then
    (bV a2.aM 0).bind fun x31=>
    (iO n a0 y4 x31).bind fun x32=>
    some x32
   else
    some false).bind fun y29=>
 if y29 then
  (bV a2.aM 0).bind fun x43=>
  (iI n a0 y4 x43 ({ a3 with aM:=[] }:aH) (-2:Int)).bind fun x44=>
  if x44.2.2.e_ == 0 then
   (bV x44.2.1.p_.bD x44.1.pP).bind fun x52=>
   (bV x44.2.1.p_.bD x44.2.1.f_).bind fun x54=>
   (aX x44.2.1 x44.2.2 (x52.cR == x54.cR) 132 a2.fR).bind fun x57=>
   some (({ x44.1 with fR:=a2.fR }:aH),x44.2.1,x57)
  else
   some (({ x44.1 with fR:=a2.fR }:aH),x44.2.1,x44.2.2)
 else
  (bV a2.aM 0).bind fun x83=>
  (gW n a0 y4 x83).bind fun x84=>
  (bV a0.p_.bD a0.f_).bind fun x92=>
  (sT x84.1.cM x92.cR).bind fun x95=>
  (aX a0 x84.2 x95 132 a2.fR).bind fun x96=>
  some (({ a3 with kL:=([114,101,116,117,114,110]:cQ),aM:=[x84.1] }:aH),a0,x96)
def iW (dV:aD->aI->aB->Bool->Option (aH × aD × aI)) (a2:aB) (a3:Bool):Nat->(List aH)->Int->aD->aI->Option ((List aH) × aD × aI)
 | 0,_,_,_,_=>none
 | c9+1,v4,v5,v6,v7=>
   if decide (v5<(a2.aM.length:Int)) then
    (bV a2.aM v5).bind fun x14=>
    if v7.e_ != 0 then
     some (v4,v6,v7)
    else
     (if a3 then
        (dV v6 v7 x14 (v5 == (i64.wrap ((a2.aM.length:Int) - 1)))).bind fun x28=>
        gX (v4.length+[x28.1].length<=1073741824) <|
        some ((v4++[x28.1]),x28.2.1,x28.2.2)
       else
        (dV v6 v7 x14 false).bind fun x33=>
        gX (v4.length+[x33.1].length<=1073741824) <|
        some ((v4++[x33.1]),x33.2.1,x33.2.2)).bind fun y26=>
     iW dV a2 a3 c9 y26.1 (i64.wrap (v5+1)) y26.2.1 y26.2.2
   else
    some (v4,v6,v7)
def lJ (dV:aD->aI->aB->Bool->Option (aH × aD × aI)) (n:Nat) (a0:aD) (a1:aI) (a2:aB) (a3:Bool):Option ((List aH) × aD × aI):=
 (iW dV a2 a3 n [] 0 a0 a1).bind fun y8=>
 gX (0<=(a0.bJ.length:Int)/\(a0.bJ.length:Int)<=(y8.2.1.bJ.length:Int)) <|
 some (y8.1,({ y8.2.1 with bJ:=(y8.2.1.bJ.take (a0.bJ.length)) }:aD),y8.2.2)
def fW (dA:aD->aI->aB->Bool->Option ((List aH) × aD × aI)) (a2:aB):Nat->Int->aD->aI->aH->Option (aD × aI × aH)
 | 0,_,_,_,_=>none
 | c59+1,v54,v55,v56,v57=>
   if decide (v54<((a2.aM.drop 2).length:Int)) then
    (bV (a2.aM.drop 2) v54).bind fun x64=>
    (dA v55 v56 x64 false).bind fun x70=>
    fW dA a2 c59 (i64.wrap (v54+1)) x70.2.1 x70.2.2 ({ v57 with sX:=x70.1 }:aH)
   else
    some (v55,v56,v57)
def jA (dA:aD->aI->aB->Bool->Option ((List aH) × aD × aI)) (nZ:aD->aI->aB->aH->Option (aH × aD × aI)) (n:Nat) (a0:aD) (a1:aI) (a2:aB) (a3:Bool):Option (aH × aD × aI):=
 if a2.bX == 5 then
  (bV a2.aM 0).bind fun x5=>
  (fI n a0 a1 x5).bind fun x6=>
  (eI n a0 x6.2 (bB.mk a2.cP 1 0) a2.fR).bind fun x13=>
  some ((aH.mk ([108,101,116]:cQ) x13.1 0 [x6.1] [] [] a2.fR),x13.2.1,x13.2.2)
 else
  if a2.bX == 6 then
   (nL n a0 a1 a2 (aH.mk [] (-1:Int) 0 [] [] [] a2.fR)).bind fun x16=>
   some (x16.1,x16.2.1,x16.2.2)
  else
   if a2.bX == 7 then
    (uR (i64.wrap (min a2.mM 1025))).bind fun x19=>
    (aX a0 a1 x19 136 a2.fR).bind fun x20=>
    (eI n a0 x20 (bB.mk a2.cP 4 (i64.wrap a2.mM)) a2.fR).bind fun x23=>
    some ((aH.mk ([97,114,114]:cQ) x23.1 0 [] [] [] a2.fR),x23.2.1,x23.2.2)
   else
    if a2.bX == 8 then
     (oX n a0 a1 a2 (aH.mk [] (-1:Int) 0 [] [] [] a2.fR)).bind fun x26=>
     some (x26.1,x26.2.1,x26.2.2)
    else
     if a2.bX == 9 then
      (oY n a0 a1 a2 (aH.mk [] (-1:Int) 0 [] [] [] a2.fR)).bind fun x29=>
      some (x29.1,a0,x29.2)
     else
      if a2.bX == 10 then
       (iI n a0 a1 a2 (aH.mk [] (-1:Int) 0 [] [] [] a2.fR) (-1:Int)).bind fun x32=>
       some (x32.1,x32.2.1,x32.2.2)
      else
       if a2.bX == 11 then
        (bV a2.aM 0).bind fun x35=>
        (fI n a0 a1 x35).bind fun x36=>
        (bV a2.aM 1).bind fun x43=>
        (dA a0 x36.2 x43 false).bind fun x44=>
        gX ((0:Int)<=2/\2<=(a2.aM.length:Int)) <|
        (fW dA a2 n 0 x44.2.1 x44.2.2 (aH.mk ([105,102]:cQ) (-1:Int) 0 [x36.1] x44.1 [] a2.fR)).bind fun y58=>
        some (y58.2.2,y58.1,y58.2.1)
       else
        if a2.bX == 12 then
         (nZ a0 a1 a2 (aH.mk [] (-1:Int) 0 [] [] [] a2.fR)).bind fun x73=>
         some (x73.1,x73.2.1,x73.2.2)
        else
         if a2.bX == 13 then
          (oK n a0 a1 a2 (aH.mk [] (-1:Int) 0 [] [] [] a2.fR) a3).bind fun x76=>
          some (x76.1,x76.2.1,x76.2.2)
         else
          some ((aH.mk [] (-1:Int) 0 [] [] [] a2.fR),a0,a1)
def mE (dA:aD->aI->aB->Bool->Option ((List aH) × aD × aI)) (n:Nat) (a0:aD) (a1:aI) (a2:aB) (a3:aH):Option (aH × aD × aI):=
 (bV a2.aM 0).bind fun x4=>
 (fI n a0 a1 x4).bind fun x5=>
 (bV a2.aM 1).bind fun x6=>
 (fI n a0 x5.2 x6).bind fun x7=>
 (eI n a0 x7.2 (bB.mk a2.cP 1 0) a2.fR).bind fun x21=>
 (bV a2.aM 2).bind fun x23=>
 (dA x21.2.1 x21.2.2 x23 false).bind fun x24=>
 gX (0<=(min (a0.bJ.length:Int) (x24.2.1.bJ.length:Int))/\(min (a0.bJ.length:Int) (x24.2.1.bJ.length:Int))<=(x24.2.1.bJ.length:Int)) <|
 some (({ a3 with kL:=([102,111,114]:cQ),lO:=x21.1,aM:=[x5.1,x7.1],eK:=x24.1 }:aH),({ x24.2.1 with bJ:=(x24.2.1.bJ.take ((min (a0.bJ.length:Int) (x24.2.1.bJ.length:Int)).toNat)) }:aD),x24.2.2)
def eF:Nat->(aD->aI->aB->Bool->Option ((List aH) × aD × aI)) × (aD->aI->aB->Bool->Option (aH × aD × aI)) × (aD->aI->aB->aH->Option (aH × aD × aI))
 | 0=>(fun _ _ _ _=>none,fun _ _ _ _=>none,fun _ _ _ _=>none)
 | n+1=>(lJ (eF n).2.1 n,jA (eF n).1 (eF n).2.2 n,mE (eF n).1 n)
def sJ (n:Nat):aD->aI->aB->Bool->Option ((List aH) × aD × aI):=(eF n).1
def zW (n:Nat):aD->aI->aB->Bool->Option (aH × aD × aI):=(eF n).2.1
def DA (n:Nat):aD->aI->aB->aH->Option (aH × aD × aI):=(eF n).2.2
def tW (a0:aB):Option Bool:=
 (if decide (0<(a0.aM.length:Int)) then
    (bV a0.aM (i64.wrap ((a0.aM.length:Int) - 1))).bind fun x4=>
    some (x4.bX == 13)
   else
    some false).bind fun y2=>
 some y2
def iD (n:Nat) (a3:aB):Nat->Int->aD->aI->Option (aD × aI)
 | 0,_,_,_=>none
 | c11+1,v7,v8,v9=>
   if decide (v7<((a3.aM.drop (max (i64.wrap ((a3.aM.length:Int) - 1)) 0).toNat).length:Int)) then
    (bV (a3.aM.drop (max (i64.wrap ((a3.aM.length:Int) - 1)) 0).toNat) v7).bind fun x16=>
    (bV v8.p_.bD v8.f_).bind fun x22=>
    (sJ n v8 v9 x16 true).bind fun x25=>
    (bV x25.2.1.p_.bD v8.f_).bind fun x26=>
    ((bV (x25.2.1.p_.bD.set v8.f_.toNat { x26 with eK:=x25.1 }) v8.f_).bind fun x56=>
      if x56.cR == 0 then
       (aX ({ x25.2.1 with p_:=⟨(x25.2.1.p_.bD.set v8.f_.toNat { x26 with eK:=x25.1 })⟩ }:aD) x25.2.2 true 135 a3.fR).bind fun x71=>
       some x71
      else
       (tW x16).bind fun x73=>
       (aX ({ x25.2.1 with p_:=⟨(x25.2.1.p_.bD.set v8.f_.toNat { x26 with eK:=x25.1 })⟩ }:aD) x25.2.2 x73 135 a3.fR).bind fun x74=>
       some x74).bind fun y55=>
    iD n a3 c11 (i64.wrap (v7+1)) ({ x25.2.1 with p_:=⟨(x25.2.1.p_.bD.set v8.f_.toNat { x26 with eK:=x25.1 })⟩ }:aD) y55
   else
    some (v8,v9)
def jW (n:Nat) (a0:aD) (a1:aI) (a2:Int) (a3:aB):Option (aD × aI):=
 (kP n a0 a1 a2).bind fun x2=>
 gX (0<=(max (i64.wrap ((a3.aM.length:Int) - 1)) 0)/\(max (i64.wrap ((a3.aM.length:Int) - 1)) 0)<=(a3.aM.length:Int)) <|
 (iD n a3 n 0 x2.1 x2.2).bind fun y10=>
 some (y10.1,y10.2)
def uK (rec_:Int->List Int->Option (Bool × List Int)) (to:Int):List Int->List Int->Option (Bool × List Int)
 | [],seen=>some (false,seen)
 | k::ks,seen=>
   if k == to then some (true,seen)
   else
    (bV seen k).bind fun s=>
    if i64.wrap (s+1) == 1 then
     (rec_ k (seen.set k.toNat (i64.wrap (s+1)))).bind fun r=>
     if r.1=true then some (true,r.2) else uK rec_ to ks r.2
    else uK rec_ to ks (seen.set k.toNat (i64.wrap (s+1)))
def jJ:Nat->aD->Int->Int->List Int->Option (Bool × List Int)
 | 0,_,_,_,_=>none
 | n+1,c,fr,to,seen=>(bV c.cK fr).bind fun l=>gX (l.length<=1073741824) <| uK (fun k s=>jJ n c k to s) to l seen
abbrev Look:=Int->aB->aD->aI->Option (aD × aI)
def rX (look:Look):List aB->Nat->aD->aI->Option (aD × aI)
 | [],_,c,w=>some (c,w)
 | f::l,i,c,w=>if w.e_ == 0 then (look i f c w).bind fun r=>rX look l (i+1) r.1 r.2 else rX look l (i+1) c w
def uS (nodes:List aB):List Look->aD->aI->Option (aD × aI)
 | [],c,w=>some (c,w)
 | look::ls,c,w=>(rX look nodes 0 c w).bind fun r=>uS nodes ls r.1 r.2
def wL (n len:Nat) (c:aD):List aB->Nat->aI->Option aI
 | [],_,w=>some w
 | f::l,i,w=>if w.e_ == 0 then (jJ n c i i (List.replicate len 0)).bind fun r=>(aX c w (!r.1) 134 f.fR).bind fun w'=>wL n len c l (i+1) w' else wL n len c l (i+1) w
def uT (n:Nat) (a0:cQ):Option (aN × Int × Int):=
 (wT n a0).bind fun p=>
 if p.2.1 != 0 then some (⟨[]⟩,p.2.1,p.2.2)
 else
  (nJ n aD.Z ⟨0,0⟩ p.1).bind fun a=>
  gX (p.1.aM.length<=1073741824) <|
  (uS p.1.aM [fun i f c w=>jV n c w i f,fun i f c w=>jW n c w i f] a.1 a.2).bind fun b=>
  (wL n p.1.aM.length b.1 p.1.aM 0 b.2).bind fun w=>
  if w.e_ != 0 then some (⟨[]⟩,w.e_,w.Av) else some (b.1.p_,0,0)
structure T_interp_Args where
 dK:(List Int)
 iS:(List (List Int))
def T_interp_Args.C (x:T_interp_Args):List V:=[.list .none (x.dK.map (cI .u64)),.list .none (x.iS.map (cL (cI .u32)))]
@[go_sem] theorem T_interp_Args.C_eq (x:T_interp_Args):T_interp_Args.C x=[.list .none (x.dK.map (cI .u64)),.list .none (x.iS.map (cL (cI .u32)))]:=rI rfl
structure bC where
 bX:Int
 A_:Int
 B_:Int
def bC.C (x:bC):List V:=[.lit (.int .i64 x.bX),.lit (.int .u32 x.A_),.lit (.int .u32 x.B_)]
@[go_sem] theorem bC.C_eq (x:bC):bC.C x=[.lit (.int .i64 x.bX),.lit (.int .u32 x.A_),.lit (.int .u32 x.B_)]:=rI rfl
structure aE where
 p_:aN
 eB:Int
 fQ:Int
 e_:Int
 bT:(List bC)
structure aY where
 kL:Int
 N_:Int
 aM:(List aY)
mutual
def aY.C:aY->List V
 | ⟨a0,a1,a2⟩=>[.lit (.int .i64 a0),.lit (.int .u32 a1),.list .none (aY.CL a2)]
def aY.CL:List aY->List (List V)
 | []=>[]
 | x::l=>aY.C x::aY.CL l
end
theorem aY.CL_eq (l:List aY):aY.CL l=l.map aY.C:=by
 induction l with
 | nil=>rfl
 | cons x l ih=>rw [aY.CL,ih];rfl
@[go_sem] theorem aY.C_eq (x:aY):aY.C x=[.lit (.int .i64 x.kL),.lit (.int .u32 x.N_),.list .none (x.aM.map aY.C)]:=by
 cases x;simp only [aY.C,aY.CL_eq]
structure aJ where
 f_:aR
 cC:List Int
 cE:List Int
 oP:Int
def Cx (W A:Pa) (x:aJ):List V:=[.lit (.string (bs x.f_.jX)),.lit (.bool x.f_.iG),.lit (.int .i64 x.f_.cR),.lit (.int .i64 x.f_.aW),.list .none (x.f_.aV.map bB.C),.list .none (x.f_.eK.map aH.C),.vec W 1 x.cC.length,.vec A 1 x.cE.length,.lit (.int .u64 x.oP)]
@[go_sem] theorem frC_eq {W A:Pa} {x:aJ}:Cx W A x=[.lit (.string (bs x.f_.jX)),.lit (.bool x.f_.iG),.lit (.int .i64 x.f_.cR),.lit (.int .i64 x.f_.aW),.list .none (x.f_.aV.map bB.C),.list .none (x.f_.eK.map aH.C),.vec W 1 x.cC.length,.vec A 1 x.cE.length,.lit (.int .u64 x.oP)]:=rI rfl
structure dX where
 Gn:Int
 cR:Int
 iS:(List (List Int))
 zK:(List bC)
def dX.C (x:dX):List V:=[.lit (.int .i64 x.Gn),.lit (.int .u64 x.cR),.list .none (x.iS.map (cL (cI .u32))),.list .none (x.zK.map bC.C)]
@[go_sem] theorem dX.C_eq (x:dX):dX.C x=[.lit (.int .i64 x.Gn),.lit (.int .u64 x.cR),.list .none (x.iS.map (cL (cI .u32))),.list .none (x.zK.map bC.C)]:=rI rfl
def dX.Z:dX:=⟨0,0,[],[]⟩
def pM (a0:aR) (a1:T_interp_Args):Nat->Int->Int->Int->Option ((Int × Int) ⊕ Bool)
 | 0,_,_,_=>none
 | c10+1,v6,v7,v8=>
   if decide (v8<((a0.aV.take a0.aW.toNat).length:Int)) then
    ((bV (a0.aV.take a0.aW.toNat) v8).bind fun x16=>
      if x16.bX == 4 then
       (if decide ((a1.iS.length:Int)<=v7) then
          some true
         else
          (bV a1.iS v7).bind fun x25=>
          some ((x25.length:Int) != x16.jB)).bind fun y23=>
       if y23 then
        some (.inr false)
       else
        some (.inl (v6,(i64.wrap (v7+1))))
      else
       (if decide ((a1.dK.length:Int)<=v6) then
          some true
         else
          if x16.bX != 3 then
           (bV a1.dK v6).bind fun x37=>
           some (decide (4294967295<x37))
          else
           some false).bind fun y34=>
       if y34 then
        some (.inr false)
       else
        some (.inl ((i64.wrap (v6+1)),v7)):Option ((Int × Int) ⊕ Bool)).bind fun y15=>
    y15.elim (fun y15a=>
     pM a0 a1 c10 y15a.1 y15a.2 (i64.wrap (v8+1))) (fun y15a=>
     some (.inr y15a))
   else
    some (.inl (v6,v7))
def mR (n:Nat) (a0:aR) (a1:T_interp_Args):Option Bool:=
 gX (0<=a0.aW/\a0.aW<=(a0.aV.length:Int)) <|
 (pM a0 a1 n 0 0 0).bind fun y9=>
 y9.elim (fun y9a=>
  (if y9a.1 == (a1.dK.length:Int) then
     some (y9a.2 == (a1.iS.length:Int))
    else
     some false).bind fun y54=>
  some y54) (fun y9a=>
  some y9a)
def lL (a0:aR) (a1:T_interp_Args) (a2:T_interp_Args):Nat->Int->Int->Option (Unit ⊕ Bool)
 | 0,_,_=>none
 | c20+1,v17,v18=>
   if decide (v18<((a0.aV.take a0.aW.toNat).length:Int)) then
    ((bV (a0.aV.take a0.aW.toNat) v18).bind fun x26=>
      if x26.bX == 4 then
       some (.inl v17)
      else
       (if x26.bX == 1 then
          (bV a1.dK v17).bind fun x35=>
          (bV a2.dK v17).bind fun x36=>
          some (x35 != x36)
         else
          some false).bind fun y33=>
       if y33 then
        some (.inr false)
       else
        some (.inl (i64.wrap (v17+1))):Option (Int ⊕ Bool)).bind fun y25=>
    y25.elim (fun y25a=>
     lL a0 a1 a2 c20 y25a (i64.wrap (v18+1))) (fun y25a=>
     some (.inr y25a))
   else
    some (.inl ())
def pG (n:Nat) (a0:aR) (a1:T_interp_Args) (a2:T_interp_Args):Option Bool:=
 ((mR n a0 a1).bind fun x5=>
   if !x5 then
    some true
   else
    (mR n a0 a2).bind fun x8=>
    some (!x8)).bind fun y4=>
 if y4 then
  some false
 else
  gX (0<=a0.aW/\a0.aW<=(a0.aV.length:Int)) <|
  (lL a0 a1 a2 n 0 0).bind fun y19=>
  y19.elim (fun y19a=>
   some true) (fun y19a=>
   some y19a)
def bN (a0:aE):Option Bool:=
 (if a0.fQ != 0 then
    some true
   else
    some (a0.e_ != 0)).bind fun y1=>
 some y1
def iH (a0:aE):Option aE:=
 if decide (a0.eB<=0) then
  some ({ a0 with e_:=70 }:aE)
 else
  some ({ a0 with eB:=(i64.wrap (a0.eB - 1)) }:aE)
def eQ (a0:aE) (a1:Int) (a2:Int) (a3:Int):Option aE:=
 gX (a0.bT.length+[(bC.mk a1 a2 a3)].length<=1073741824) <|
 some ({ a0 with bT:=(a0.bT++[(bC.mk a1 a2 a3)]) }:aE)
def rU (a0:cQ) (a1:(List Int)):Option (Int × Bool):=
 if decide (a0=([115,101,108,101,99,116]:cQ)) then
  (bV a1 0).bind fun x2=>
  if (vT .u64 x2 1) == 1 then
   (bV a1 1).bind fun x9=>
   some (x9,true)
  else
   (bV a1 2).bind fun x15=>
   some (x15,true)
 else
  if decide (a0=([108,111,110,103]:cQ)) then
   (bV a1 0).bind fun x22=>
   some (x22,true)
  else
   if decide (a0=([108,111]:cQ)) then
    (bV a1 0).bind fun x29=>
    some ((vT .u64 x29 4294967295),true)
   else
    if decide (a0=([104,105]:cQ)) then
     (bV a1 0).bind fun x36=>
     some ((KC .u64 x36 32),true)
    else
     if decide (a0=([119,105,100,101]:cQ)) then
      (bV a1 0).bind fun x43=>
      (bV a1 1).bind fun x44=>
      some ((u64.wrap (x43*x44)),true)
     else
      some (0,false)
def mJ (a0:Int) (a1:Int):Option Int:=
 gX (0<=(vT .u64 (u64.wrap a1) 63)) <|
 gX (0<=(u64.wrap (64 - (vT .u64 (u64.wrap a1) 63)))) <|
 some (orK .u64 (Oo .u64 a0 (vT .u64 (u64.wrap a1) 63)) (KC .u64 a0 (u64.wrap (64 - (vT .u64 (u64.wrap a1) 63)))))
def vG (a0:Bool):Option Int:=
 if a0 then
  some 1
 else
  some 0
def uQ (a0:cQ) (a1:Int) (a2:Int):Option Int:=
 if decide (a0=([124]:cQ)) then
  some (orK .u64 a1 a2)
 else
  if decide (a0=([94]:cQ)) then
   some (xorK .u64 a1 a2)
  else
   if decide (a0=([38]:cQ)) then
    some (vT .u64 a1 a2)
   else
    if decide (a0=([43]:cQ)) then
     some (u64.wrap (a1+a2))
    else
     if decide (a0=([45]:cQ)) then
      some (u64.wrap (a1 - a2))
     else
      if decide (a0=([60,60]:cQ)) then
       gX (0<=a2) <|
       some (Oo .u64 a1 a2)
      else
       if decide (a0=([62,62]:cQ)) then
        gX (0<=a2) <|
        some (KC .u64 a1 a2)
       else
        if decide (a0=([60,60,60]:cQ)) then
         (mJ a1 (i64.wrap a2)).bind fun x11=>
         some x11
        else
         if decide (a0=([61,61]:cQ)) then
          (vG (a1 == a2)).bind fun x14=>
          some x14
         else
          if decide (a0=([60]:cQ)) then
           (vG (decide (a1<a2))).bind fun x17=>
           some x17
          else
           if decide (a0=([110,111,116]:cQ)) then
            some (comK .u64 a1)
           else
            some (u64.wrap (0 - a1))
def qF (a0:cQ):Nat->Int->Option (Unit ⊕ Int)
 | 0,_=>none
 | c4+1,v2=>
   if decide (v2<15) then
    (bV dR v2).bind fun x9=>
    if decide (x9.GZ=a0) then
     some (.inr x9.op_)
    else
     qF a0 c4 (i64.wrap (v2+1))
   else
    some (.inl ())
def sE (n:Nat) (a0:cQ):Option Int:=
 (qF a0 n 0).bind fun y3=>
 y3.elim (fun y3a=>
  some 0) (fun y3a=>
  some y3a)
def BS (a0:Int):Option aY:=
 some (aY.mk 1 a0 [])
def FD (a0:aY) (a1:(List Int)):Option Int:=
 if a0.kL == 1 then
  some a0.N_
 else
  if decide ((i64.wrap a0.N_)<(a1.length:Int)) then
   (bV a1 a0.N_).bind fun x4=>
   some x4
  else
   some 0
def vZ (a0:Bool):Option Int:=
 if a0 then
  some 1
 else
  some 0
def ES (a0:Int) (a1:Int):Option Int:=
 if a0 == 3 then
  some (comK .u32 a1)
 else
  some (u32.wrap (0 - a1))
def mK (a0:Int) (a1:Int):Option Int:=
 gX (0<=(vT .u64 (u64.wrap a1) 31)) <|
 gX (0<=(u64.wrap (32 - (vT .u64 (u64.wrap a1) 31)))) <|
 some (orK .u32 (Oo .u32 a0 (vT .u64 (u64.wrap a1) 31)) (KC .u32 a0 (u64.wrap (32 - (vT .u64 (u64.wrap a1) 31)))))
def yM (a0:Int) (a1:Int) (a2:Int):Option Int:=
 if a0 == 5 then
  some (orK .u32 a1 a2)
 else
  if a0 == 6 then
   some (xorK .u32 a1 a2)
  else
   if a0 == 7 then
    some (vT .u32 a1 a2)
   else
    if a0 == 10 then
     gX (0<=(vT .u32 a2 31)) <|
     some (Oo .u32 a1 (vT .u32 a2 31))
    else
     if a0 == 11 then
      gX (0<=(vT .u32 a2 31)) <|
      some (KC .u32 a1 (vT .u32 a2 31))
     else
      (mK a1 (i64.wrap (vT .u32 a2 31))).bind fun x8=>
      some x8
def yL (a0:Int) (a1:Int) (a2:Int):Option (Int × Bool):=
 if a0 == 8 then
  (vZ (a1 == a2)).bind fun x2=>
  some (x2,true)
 else
  if a0 == 9 then
   (vZ (decide (a1<a2))).bind fun x5=>
   some (x5,true)
  else
   if a0 == 13 then
    some ((u32.wrap (a1+a2)),true)
   else
    if a0 == 14 then
     some ((u32.wrap (a1 - a2)),true)
    else
     if a0 == 15 then
      some ((u32.wrap (a1*a2)),true)
     else
      if a0 == 16 then
       if a2 == 0 then
        some (0,false)
       else
        gX (a2 ≠ 0) <|
        some ((u32.wrap (a1.tdiv a2)),true)
      else
       if a0 == 17 then
        if a2 == 0 then
         some (0,false)
        else
         gX (a2 ≠ 0) <|
         some ((a1.tmod a2),true)
       else
        (yM a0 a1 a2).bind fun x16=>
        some (x16,true)
def qB (tP:aY->(List Int)->Option (Int × Bool)) (n:Nat) (a0:aY) (a1:(List Int)):Option (Int × Bool):=
 if (a0.aM.length:Int) == 0 then
  (FD a0 a1).bind fun x3=>
  some (x3,true)
 else
  (bV a0.aM 0).bind fun x5=>
  (tP x5 a1).bind fun x6=>
  (if !x6.2 then
     some true
    else
     some ((a0.aM.length:Int) == 1)).bind fun y13=>
  if y13 then
   (vZ x6.2).bind fun x19=>
   (ES a0.kL x6.1).bind fun x20=>
   some ((u32.wrap (x19*x20)),x6.2)
  else
   (bV a0.aM 1).bind fun x23=>
   (tP x23 a1).bind fun x24=>
   if !x24.2 then
    some (0,false)
   else
    (yL a0.kL x6.1 x24.1).bind fun x32=>
    some (x32.1,x32.2)
def jE:Nat->aY->(List Int)->Option (Int × Bool)
 | 0=>fun _ _=>none
 | n+1=>qB (jE n) n
def mC (a2:(List Int)):Nat->Int->aY->Option aY
 | 0,_,_=>none
 | c50+1,v47,v48=>
   if decide (v47<(a2.length:Int)) then
    (bV a2 v47).bind fun x55=>
    (BS (u32.wrap x55)).bind fun x60=>
    gX (v48.aM.length+[x60].length<=1073741824) <|
    mC a2 c50 (i64.wrap (v47+1)) ({ v48 with aM:=(v48.aM++[x60]) }:aY)
   else
    some v48
def jU (a2:(List Int)):Nat->Int->aY->Option aY
 | 0,_,_=>none
 | c78+1,v75,v76=>
   if decide (v75<(a2.length:Int)) then
    (bV a2 v75).bind fun x83=>
    (BS (u32.wrap x83)).bind fun x88=>
    gX (v76.aM.length+[x88].length<=1073741824) <|
    jU a2 c78 (i64.wrap (v75+1)) ({ v76 with aM:=(v76.aM++[x88]) }:aY)
   else
    some v76
def mB (a2:(List Int)):Nat->Int->aY->Option aY
 | 0,_,_=>none
 | c129+1,v126,v127=>
   if decide (v126<(a2.length:Int)) then
    (bV a2 v126).bind fun x134=>
    (BS (u32.wrap x134)).bind fun x139=>
    gX (v127.aM.length+[x139].length<=1073741824) <|
    mB a2 c129 (i64.wrap (v126+1)) ({ v127 with aM:=(v127.aM++[x139]) }:aY)
   else
    some v127
def jT (a2:(List Int)):Nat->Int->aY->Option aY
 | 0,_,_=>none
 | c157+1,v154,v155=>
   if decide (v154<(a2.length:Int)) then
    (bV a2 v154).bind fun x162=>
    (BS (u32.wrap x162)).bind fun x167=>
    gX (v155.aM.length+[x167].length<=1073741824) <|
    jT a2 c157 (i64.wrap (v154+1)) ({ v155 with aM:=(v155.aM++[x167]) }:aY)
   else
    some v155
def eG (n:Nat) (a0:aE) (a1:aG) (a2:(List Int)):Option (Int × aE):=
 (if decide (0<(a1.aM.length:Int)) then
    (bV a1.aM 0).bind fun x4=>
    some (x4.cM == 3)
   else
    some false).bind fun y2=>
 if decide (1<(a2.length:Int)) then
  (bV a2 1).bind fun x14=>
  if y2 then
   (bV a2 0).bind fun x21=>
   (uQ a1.kL x21 x14).bind fun x22=>
   some (x22,a0)
  else
   (if decide (a1.kL=([47]:cQ)) then
      some true
     else
      some (decide (a1.kL=([37]:cQ)))).bind fun y29=>
   if y29 then
    (bV a2 0).bind fun x35=>
    (eQ a0 4 (u32.wrap x35) (u32.wrap x14)).bind fun x36=>
    (sE n a1.kL).bind fun x43=>
    (mC a2 n 0 (aY.mk x43 0 [])).bind fun y49=>
    (jE n y49 []).bind fun x68=>
    if !x68.2 then
     some ((u64.wrap x68.1),({ x36 with fQ:=2 }:aE))
    else
     some ((u64.wrap x68.1),x36)
   else
    (sE n a1.kL).bind fun x71=>
    (jU a2 n 0 (aY.mk x71 0 [])).bind fun y77=>
    (jE n y77 []).bind fun x96=>
    if !x96.2 then
     some ((u64.wrap x96.1),({ a0 with fQ:=2 }:aE))
    else
     some ((u64.wrap x96.1),a0)
 else
  if y2 then
   (bV a2 0).bind fun x100=>
   (uQ a1.kL x100 0).bind fun x101=>
   some (x101,a0)
  else
   (if decide (a1.kL=([47]:cQ)) then
      some true
     else
      some (decide (a1.kL=([37]:cQ)))).bind fun y108=>
   if y108 then
    (bV a2 0).bind fun x114=>
    (eQ a0 4 (u32.wrap x114) (u32.wrap 0)).bind fun x115=>
    (sE n a1.kL).bind fun x122=>
    (mB a2 n 0 (aY.mk x122 0 [])).bind fun y128=>
    (jE n y128 []).bind fun x147=>
    if !x147.2 then
     some ((u64.wrap x147.1),({ x115 with fQ:=2 }:aE))
    else
     some ((u64.wrap x147.1),x115)
   else
    (sE n a1.kL).bind fun x150=>
    (jT a2 n 0 (aY.mk x150 0 [])).bind fun y156=>
    (jE n y156 []).bind fun x175=>
    if !x175.2 then
     some ((u64.wrap x175.1),({ a0 with fQ:=2 }:aE))
    else
     some ((u64.wrap x175.1),a0)
def dY (dI:aE->aJ->(List (List Int))->aG->Option (Int × aE)) (a3:aG) (a1:aJ) (a2:(List (List Int))):Nat->(List Int)->Int->aE->Option (((List Int) × aE) ⊕ (Int × aE))
 | 0,_,_,_=>none
 | c50+1,v46,v47,v48=>
   if decide (v47<(a3.aM.length:Int)) then
    (bV a3.aM v47).bind fun x55=>
    (dI v48 a1 a2 x55).bind fun x61=>
    (bN x61.2).bind fun x63=>
    if x63 then
     some (.inr (0,x61.2))
    else
     gX (v46.length+[x61.1].length<=1073741824) <|
     dY dI a3 a1 a2 c50 (v46++[x61.1]) (i64.wrap (v47+1)) x61.2
   else
    some (.inl (v46,v48))
def cY (mW:aE->aJ->(List (List Int))->aG->Int->Option (Int × aE)) (dI:aE->aJ->(List (List Int))->aG->Option (Int × aE)) (n:Nat) (a0:aE) (a1:aJ) (a2:(List (List Int))) (a3:aG):Option (Int × aE):=
 if decide (a3.kL=([110,117,109]:cQ)) then
  some ((u64.wrap a3.N_),a0)
 else
  if decide (a3.kL=([118,97,114]:cQ)) then
   (bV a1.cC a3.lO).bind fun x4=>
   some (x4,a0)
  else
   if decide (a3.kL=([105,110,100,101,120]:cQ)) then
    (bV a3.aM 0).bind fun x12=>
    (mW a0 a1 a2 x12 a3.lO).bind fun x13=>
    (bN x13.2).bind fun x20=>
    if x20 then
     some (0,x13.2)
    else
     (bV a1.cE a3.lO).bind fun x23=>
     (bV a2 x23).bind fun x24=>
     (bV x24 x13.1).bind fun x26=>
     some ((u64.wrap x26),x13.2)
   else
    (dY dI a3 a1 a2 n [] 0 a0).bind fun y49=>
    y49.elim (fun y49a=>
     (rU a3.kL y49a.1).bind fun x74=>
     if x74.2=true then
      some (x74.1,y49a.2)
     else
      (eG n y49a.2 a3 y49a.1).bind fun x77=>
      some (x77.1,x77.2)) (fun y49a=>
     some y49a)
def iC (dI:aE->aJ->(List (List Int))->aG->Option (Int × aE)) (n:Nat) (a0:aE) (a1:aJ) (a2:(List (List Int))) (a3:aG) (a4:Int):Option (Int × aE):=
 (dI a0 a1 a2 a3).bind fun x2=>
 (bN x2.2).bind fun x4=>
 if x4 then
  some (0,x2.2)
 else
  (bV a1.cE a4).bind fun x7=>
  (bV a2 x7).bind fun x8=>
  (eQ x2.2 3 (u32.wrap x2.1) (u32.wrap (x8.length:Int))).bind fun x22=>
  if decide ((u32.wrap (x8.length:Int))<=(u32.wrap x2.1)) then
   some (0,({ x22 with fQ:=1 }:aE))
  else
   some ((u32.wrap x2.1),x22)
def eZ:Nat->(aE->aJ->(List (List Int))->aG->Option (Int × aE)) × (aE->aJ->(List (List Int))->aG->Int->Option (Int × aE))
 | 0=>(fun _ _ _ _=>none,fun _ _ _ _ _=>none)
 | n+1=>(cY (eZ n).2 (eZ n).1 n,iC (eZ n).1 n)
def bU (n:Nat):aE->aJ->(List (List Int))->aG->Option (Int × aE):=(eZ n).1
def gK (n:Nat):aE->aJ->(List (List Int))->aG->Int->Option (Int × aE):=(eZ n).2
def cZ (a0:aJ) (a1:(List (List Int))) (a2:Int) (a3:Int):Option (aJ × (List (List Int))):=
 if decide (0<=a2) then
  (bV a0.cC a2).bind fun x2=>
  some (({ a0 with cC:=(a0.cC.set a2.toNat a3) }:aJ),a1)
 else
  some (a0,a1)
def hM (n:Nat) (a0:aE) (a1:aJ) (a2:(List (List Int))) (a3:aH):Option (aE × aJ × (List (List Int))):=
 (bV a3.aM 0).bind fun x2=>
 (gK n a0 a1 a2 x2 a3.lO).bind fun x3=>
 (bN x3.2).bind fun x10=>
 if x10 then
  some (x3.2,a1,a2)
 else
  (bV a3.aM 1).bind fun x13=>
  (bU n x3.2 a1 a2 x13).bind fun x14=>
  (bN x14.2).bind fun x21=>
  if !x21 then
   (bV a1.cE a3.lO).bind fun x24=>
   (bV a2 x24).bind fun x25=>
   (bV x25 x3.1).bind fun x27=>
   some (x14.2,a1,(a2.set x24.toNat (x25.set x3.1.toNat (u32.wrap x14.1))))
  else
   some (x14.2,a1,a2)
def dS (eM:aE->aJ->(List (List Int))->aH->Option (aE × aJ × (List (List Int)))) (a3:(List aH)):Nat->Int->aE->aJ->(List (List Int))->Option ((aE × aJ × (List (List Int))) ⊕ (aE × aJ × (List (List Int))))
 | 0,_,_,_,_=>none
 | c7+1,v2,v3,v4,v5=>
   if decide (v2<(a3.length:Int)) then
    ((bV a3 v2).bind fun x15=>
      (bN v3).bind fun x21=>
      if x21 then
       some (.inr (v3,v4,v5))
      else
       (iH v3).bind fun x24=>
       (bN x24).bind fun x26=>
       if !x26 then
        (eM x24 v4 v5 x15).bind fun x29=>
        some (.inl (x29.1,x29.2.1,x29.2.2))
       else
        some (.inl (x24,v4,v5)):Option ((aE × aJ × (List (List Int))) ⊕ (aE × aJ × (List (List Int))))).bind fun y14=>
    y14.elim (fun y14a=>
     dS eM a3 c7 (i64.wrap (v2+1)) y14a.1 y14a.2.1 y14a.2.2) (fun y14a=>
     some (.inr y14a))
   else
    some (.inl (v3,v4,v5))
def eH (eM:aE->aJ->(List (List Int))->aH->Option (aE × aJ × (List (List Int)))) (n:Nat) (a0:aE) (a1:aJ) (a2:(List (List Int))) (a3:(List aH)):Option (aE × aJ × (List (List Int))):=
 (dS eM a3 n 0 a0 a1 a2).bind fun y6=>
 y6.elim (fun y6a=>
  some (y6a.1,y6a.2.1,y6a.2.2)) (fun y6a=>
  some y6a)
def dP (nY:aE->aJ->(List (List Int))->aH->Option (aE × aJ × (List (List Int)))) (lS:aE->aJ->(List (List Int))->aH->Option (aE × aJ × (List (List Int)))) (lR:aE->aJ->(List (List Int))->aH->Option (aE × aJ × (List (List Int)))) (n:Nat) (a0:aE) (a1:aJ) (a2:(List (List Int))) (a3:aH):Option (aE × aJ × (List (List Int))):=
 if decide (a3.kL=([108,101,116]:cQ)) then
  (bV a3.aM 0).bind fun x3=>
  (bU n a0 a1 a2 x3).bind fun x4=>
  (bN x4.2).bind fun x11=>
  if !x11 then
   (cZ a1 a2 a3.lO x4.1).bind fun x14=>
   some (x4.2,x14.1,x14.2)
  else
   some (x4.2,a1,a2)
 else
  if decide (a3.kL=([118,97,114]:cQ)) then
   (bV a3.aM 0).bind fun x17=>
   (bU n a0 a1 a2 x17).bind fun x18=>
   (bN x18.2).bind fun x25=>
   if !x25 then
    (cZ a1 a2 a3.lO x18.1).bind fun x28=>
    some (x18.2,x28.1,x28.2)
   else
    some (x18.2,a1,a2)
  else
   if decide (a3.kL=([115,101,116]:cQ)) then
    (bV a3.aM 0).bind fun x31=>
    (bU n a0 a1 a2 x31).bind fun x32=>
    (bN x32.2).bind fun x39=>
    if !x39 then
     (cZ a1 a2 a3.lO x32.1).bind fun x42=>
     some (x32.2,x42.1,x42.2)
    else
     some (x32.2,a1,a2)
   else
    if decide (a3.kL=([97,114,114]:cQ)) then
     (bV a1.cE a3.lO).bind fun x45=>
     (bV a2 x45).bind fun x46=>
     gX (0<x46.length) <|
     some (a0,a1,(a2.set x45.toNat (List.replicate x46.length 0)))
    else
     if decide (a3.kL=([112,117,116]:cQ)) then
      (hM n a0 a1 a2 a3).bind fun x64=>
      some (x64.1,x64.2.1,x64.2.2)
     else
      if decide (a3.kL=([99,97,108,108]:cQ)) then
       (nY a0 a1 a2 a3).bind fun x67=>
       some (x67.1,x67.2.1,x67.2.2)
      else
       if decide (a3.kL=([105,102]:cQ)) then
        (lS a0 a1 a2 a3).bind fun x70=>
        some (x70.1,x70.2.1,x70.2.2)
       else
        if decide (a3.kL=([102,111,114]:cQ)) then
         (lR a0 a1 a2 a3).bind fun x73=>
         some (x73.1,x73.2.1,x73.2.2)
        else
         if decide (a3.kL=([114,101,116,117,114,110]:cQ)) then
          (bV a3.aM 0).bind fun x76=>
          (bU n a0 a1 a2 x76).bind fun x77=>
          some (x77.2,({ a1 with oP:=x77.1 }:aJ),a2)
         else
          some (a0,a1,a2)
def Ew (p:Nat):List bB->Nat->Nat->List Int->List (List Int)->Option (List Int × List (List Int))
 | [],_,_,rs,hs=>some (rs,hs)
 | v::l,i,b,rs,hs=>if v.bX=4 then gX (0<v.jB/\v.jB<=1073741824) (Ew p l (i+1) b (rs.set (p+i) ((b+hs.length:Nat):Int)) (hs++[List.replicate v.jB.toNat 0])) else Ew p l (i+1) b rs hs
def zC (f:aR) (b:Nat):Option (aJ × List (List Int)):=
 gX (0<=f.aW/\f.aW<=(f.aV.length:Int)/\f.aV.length<=1000000) <|
 (Ew f.aW.toNat (f.aV.drop f.aW.toNat) 0 b (List.replicate f.aV.length (-1)) []).bind fun r=>
 some ((⟨f,List.replicate f.aV.length 0,r.1,0⟩:aJ),r.2)
def rJ (n:Nat) (fr:aJ) (hs h2:List (List Int)):List aG->Nat->aE->aJ->Option (aE ⊕ (aE × aJ))
 | [],_,r,to=>some (.inr (r,to))
 | x::l,i,r,to=>
   if x.cM=4 then
    (bV fr.cE x.lO).bind fun k=>
    gX (0<=k/\k<(hs.length:Int)/\i<to.cE.length) <|
    rJ n fr hs h2 l (i+1) r { to with cE:=to.cE.set i k }
   else
    (bU n r fr hs x).bind fun v=>
    (bN v.2).bind fun e=>
    if e then some (.inl v.2) else
    (cZ to (hs++h2) (i:Int) v.1).bind fun t=>
    rJ n fr hs h2 l (i+1) v.2 t.1
def dT (cJ:aE->aJ->(List (List Int))->(List aH)->Option (aE × aJ × (List (List Int)))) (n:Nat) (a0:aE) (a1:aJ) (a2:List (List Int)) (a3:aH):Option (aE × aJ × List (List Int)):=
 gX (a3.aM.length<=1000000) <|
 (bV a0.p_.bD a3.pP).bind fun f=>
 (zC f a2.length).bind fun o=>
 (rJ n a1 a2 o.2 a3.aM 0 a0 o.1).bind fun c=>c.elim (fun r=>some (r,a1,a2)) fun c=>
 (cJ c.1 c.2 (a2++o.2) c.2.f_.eK).bind fun b=>
 (bN b.1).bind fun e=>
 if e then some (b.1,a1,b.2.2.take a2.length) else
 if a3.lO=-2 then some (b.1,({ a1 with oP:=b.2.1.oP }:aJ),b.2.2.take a2.length) else
 (cZ a1 (b.2.2.take a2.length) a3.lO b.2.1.oP).bind fun p=>some (b.1,p.1,p.2)
def eA (cJ:aE->aJ->(List (List Int))->(List aH)->Option (aE × aJ × (List (List Int)))) (n:Nat) (a0:aE) (a1:aJ) (a2:(List (List Int))) (a3:aH):Option (aE × aJ × (List (List Int))):=
 (bV a3.aM 0).bind fun x2=>
 (bU n a0 a1 a2 x2).bind fun x3=>
 (bN x3.2).bind fun x10=>
 if x10 then
  some (x3.2,a1,a2)
 else
  if x3.1 != 0 then
   (eQ x3.2 1 1 0).bind fun x14=>
   (cJ x14 a1 a2 a3.eK).bind fun x16=>
   some (x16.1,x16.2.1,x16.2.2)
  else
   (eQ x3.2 1 0 0).bind fun x18=>
   (cJ x18 a1 a2 a3.sX).bind fun x20=>
   some (x20.1,x20.2.1,x20.2.2)
def fB (cJ:aE->aJ->(List (List Int))->(List aH)->Option (aE × aJ × (List (List Int)))) (x14:(Int × aE)) (a3:aH):Nat->Int->aE->aJ->(List (List Int))->Option (aE × aJ × (List (List Int)))
 | 0,_,_,_,_=>none
 | c32+1,v27,v28,v29,v30=>
   (if decide (v27<(u32.wrap x14.1)) then
      (bN v28).bind fun x40=>
      some (!x40)
     else
      some false).bind fun y38=>
   if y38 then
    (iH v28).bind fun x46=>
    (cZ v29 v30 a3.lO (u64.wrap v27)).bind fun x48=>
    (cJ x46 x48.1 x48.2 a3.eK).bind fun x50=>
    fB cJ x14 a3 c32 (u32.wrap (v27+1)) x50.1 x50.2.1 x50.2.2
   else
    some (v28,v29,v30)
def dZ (cJ:aE->aJ->(List (List Int))->(List aH)->Option (aE × aJ × (List (List Int)))) (n:Nat) (a0:aE) (a1:aJ) (a2:(List (List Int))) (a3:aH):Option (aE × aJ × (List (List Int))):=
 (bV a3.aM 0).bind fun x2=>
 (bU n a0 a1 a2 x2).bind fun x3=>
 (bN x3.2).bind fun x10=>
 if x10 then
  some (x3.2,a1,a2)
 else
  (bV a3.aM 1).bind fun x13=>
  (bU n x3.2 a1 a2 x13).bind fun x14=>
  (bN x14.2).bind fun x21=>
  if x21 then
   some (x14.2,a1,a2)
  else
   (eQ x14.2 2 (u32.wrap x3.1) (u32.wrap x14.1)).bind fun x24=>
   (fB cJ x14 a3 n (u32.wrap x3.1) x24 a1 a2).bind fun y31=>
   some (y31.1,y31.2.1,y31.2.2)
def bQ:Nat->(aE->aJ->(List (List Int))->(List aH)->Option (aE × aJ × (List (List Int)))) × (aE->aJ->(List (List Int))->aH->Option (aE × aJ × (List (List Int)))) × (aE->aJ->(List (List Int))->aH->Option (aE × aJ × (List (List Int)))) × (aE->aJ->(List (List Int))->aH->Option (aE × aJ × (List (List Int)))) × (aE->aJ->(List (List Int))->aH->Option (aE × aJ × (List (List Int))))
 | 0=>(fun _ _ _ _=>none,fun _ _ _ _=>none,fun _ _ _ _=>none,fun _ _ _ _=>none,fun _ _ _ _=>none)
 | n+1=>(eH (bQ n).2.1 n,dP (bQ n).2.2.1 (bQ n).2.2.2.1 (bQ n).2.2.2.2 n,dT (bQ n).1 n,eA (bQ n).1 n,dZ (bQ n).1 n)
def cV (n:Nat):aE->aJ->(List (List Int))->(List aH)->Option (aE × aJ × (List (List Int))):=(bQ n).1
def fA (n:Nat):aE->aJ->(List (List Int))->aH->Option (aE × aJ × (List (List Int))):=(bQ n).2.1
def gU (n:Nat):aE->aJ->(List (List Int))->aH->Option (aE × aJ × (List (List Int))):=(bQ n).2.2.1
def gF (n:Nat):aE->aJ->(List (List Int))->aH->Option (aE × aJ × (List (List Int))):=(bQ n).2.2.2.1
def gE (n:Nat):aE->aJ->(List (List Int))->aH->Option (aE × aJ × (List (List Int))):=(bQ n).2.2.2.2
def KR (hs:List (List Int)):List bB->Nat->List Int->List (List Int)->Option (List (List Int))
 | [],_,_,out=>some out
 | v::l,i,rs,out=>
   if v.bX=4 then
    (bV rs (i:Int)).bind fun k=>gX (0<=k) <| (bV hs k).bind fun a=>KR hs l (i+1) rs (out++[a])
   else KR hs l (i+1) rs out
def BC (r:aE) (fr:aJ) (hs:List (List Int)):Option dX:=
 gX ((∀k ∈ fr.cE,k<(hs.length:Int))/\0<=fr.f_.aW/\fr.f_.aW<=(fr.f_.aV.length:Int)/\fr.f_.aV.length<=1000000) <|
 (KR hs (fr.f_.aV.take fr.f_.aW.toNat) 0 fr.cE []).bind fun a=>some ⟨r.fQ,if r.fQ=0 then fr.oP else 0,a,r.bT⟩
def vC (a:T_interp_Args):List bB->Nat->Nat->Nat->aJ->List (List Int)->Option (aJ × List (List Int))
 | [],_,_,_,to,hs=>some (to,hs)
 | v::l,i,w,k,to,hs=>
   if v.bX=4 then
    (bV a.iS (k:Int)).bind fun x=>gX (0<x.length/\x.length<=1073741824/\i<to.cE.length) <|
    vC a l (i+1) w (k+1) { to with cE:=to.cE.set i (hs.length:Int) } (hs++[x])
   else
    (bV a.dK (w:Int)).bind fun x=>gX (i<to.cC.length) <|
    vC a l (i+1) (w+1) k { to with cC:=to.cC.set i x } hs
def nS (n:Nat) (p:aN) (fn:Int) (a:T_interp_Args) (fuel:Int):Option (dX × Int):=
 if fn<0 ∨ (p.bD.length:Int)<=fn then some (dX.Z,11) else
 (bV p.bD fn).bind fun f=>
 (zC f 0).bind fun o=>
 (mR n f a).bind fun ft=>
 if ft=false then some (dX.Z,10) else
 (vC a (f.aV.take f.aW.toNat) 0 0 0 o.1 o.2).bind fun t=>
 (cV n ⟨p,fuel,0,0,[]⟩ t.1 t.2 f.eK).bind fun b=>
 if b.1.e_ ≠ 0 then some (dX.Z,b.1.e_) else
 (BC b.1 b.2.1 b.2.2).bind fun x=>some (x,0)
def pA (n:Nat):Option Bool:=
 (uT n ([101,120,112,111,114,116,32,102,110,32,102,40,112,58,32,112,117,98,44,32,120,58,32,117,51,50,41,32,45,62,32,117,51,50,32,123,32,114,101,116,117,114,110,32,120,32,43,32,49,48,32,47,32,112,59,32,125]:cQ)).bind fun x1=>
 (if x1.2.1 != 0 then
    some true
   else
    some ((x1.1.bD.length:Int) != 1)).bind fun y4=>
 if y4 then
  some false
 else
  (nS n x1.1 0 (T_interp_Args.mk [0,1] []) 9).bind fun x10=>
  (nS n x1.1 0 (T_interp_Args.mk [3,1] []) 9).bind fun x13=>
  (if x10.2 == 0 then
     if x13.2 == 0 then
      if x10.1.Gn == 2 then
       if x13.1.Gn == 0 then
        some (x13.1.cR == 4)
       else
        some false
      else
       some false
     else
      some false
    else
     some false).bind fun y16=>
  some y16
def kM (a0:cQ) (a1:T_interp_Args) (a2:Int):Option Bool:=
 (if decide (3000<(a0.length:Int)) then
    some true
   else
    if decide (10<(a1.dK.length:Int)) then
     some true
    else
     if decide (10<(a1.iS.length:Int)) then
      some true
     else
      some (decide (2000<a2))).bind fun y2=>
 some y2
def iU (a0:(List bC)) (a1:(List bC)):Nat->Int->Option (Unit ⊕ Bool)
 | 0,_=>none
 | c5+1,v3=>
   if decide (v3<(a0.length:Int)) then
    (bV a0 v3).bind fun x10=>
    (bV a1 v3).bind fun x11=>
    if !((x10.bX == x11.bX) && ((x10.A_ == x11.A_) && (x10.B_ == x11.B_))) then
     some (.inr false)
    else
     iU a0 a1 c5 (i64.wrap (v3+1))
   else
    some (.inl ())
def nE (n:Nat) (a0:(List bC)) (a1:(List bC)):Option Bool:=
 if (a0.length:Int) != (a1.length:Int) then
  some false
 else
  (iU a0 a1 n 0).bind fun y4=>
  y4.elim (fun y4a=>
   some true) (fun y4a=>
   some y4a)
def fZ (x26:aR) (a2:T_interp_Args):Nat->Int->Int->T_interp_Args->Option T_interp_Args
 | 0,_,_,_=>none
 | c40+1,v36,v37,v38=>
   if decide (v37<(min x26.aW (x26.aV.length:Int))) then
    ((bV x26.aV v37).bind fun x46=>
      if x46.bX == 4 then
       some (v36,v38)
      else
       (if x46.bX == 1 then
          if decide (v36<(a2.dK.length:Int)) then
           some (decide (v36<(v38.dK.length:Int)))
          else
           some false
         else
          some false).bind fun y52=>
       if y52 then
        (bV a2.dK v36).bind fun x59=>
        (bV v38.dK v36).bind fun x60=>
        some ((i64.wrap (v36+1)),({ v38 with dK:=(v38.dK.set v36.toNat x59) }:T_interp_Args))
       else
        some ((i64.wrap (v36+1)),v38)).bind fun y45=>
    fZ x26 a2 c40 y45.1 (i64.wrap (v37+1)) y45.2
   else
    some v38
def gP (n:Nat) (a0:cQ) (a1:Int) (a2:T_interp_Args) (a3:T_interp_Args) (a4:Int):Option Bool:=
 (pA n).bind fun x3=>
 if !x3 then
  some false
 else
  ((kM a0 a2 a4).bind fun x7=>
    if x7 then
     some true
    else
     (kM a0 a3 a4).bind fun x10=>
     some x10).bind fun y6=>
  if y6 then
   some true
  else
   (uT n a0).bind fun x16=>
   (if x16.2.1 != 0 then
      some true
     else
      if decide (a1<0) then
       some true
      else
       some (decide ((x16.1.bD.length:Int)<=a1))).bind fun y19=>
   if y19 then
    some true
   else
    (bV x16.1.bD a1).bind fun x26=>
    gX (a3.dK.length<=1073741824) <|
    (fZ x26 a2 n 0 0 (T_interp_Args.mk a3.dK a3.iS)).bind fun y39=>
    ((mR n x26 a2).bind fun x102=>
      if !x102 then
       some true
      else
       (mR n x26 y39).bind fun x105=>
       some (!x105)).bind fun y101=>
    if y101 then
     (pG n x26 a2 y39).bind fun x111=>
     some (!x111)
    else
     (nS n x16.1 a1 a2 a4).bind fun x113=>
     (nS n x16.1 a1 y39 a4).bind fun x116=>
     ((pG n x26 a2 y39).bind fun x120=>
       if x120 then
        if x113.2 == x116.2 then
         if x113.1.Gn == x116.1.Gn then
          (nE n x113.1.zK x116.1.zK).bind fun x125=>
          some x125
         else
          some false
        else
         some false
       else
        some false).bind fun y119=>
     some y119
end Go.Proofs.YtncembphlfbgoaaGreatDoor.Abs
