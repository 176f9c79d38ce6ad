/- Lemmas of ours. -/
import Derived.Test.YtncembphlfbgoaaGreatDoorIFS3
namespace Go.Proofs.YtncembphlfbgoaaGreatDoor.Abs
open IntKind (i64 u32 u64 u8)
open Go.RowKit
set_option linter.unusedVariables false
structure bM where
 MK:cR
 Nh:Int
def bM.C (x:bM):List V:=[.lit (.string (bs x.MK)),.lit (.int .i64 x.Nh)]
@[go_sem] theorem bM.C_eq (x:bM):bM.C x=[.lit (.string (bs x.MK)),.lit (.int .i64 x.Nh)]:=rI rfl
structure bW where
 MD:cR
 op_:Int
def bW.C (x:bW):List V:=[.lit (.string (bs x.MD)),.lit (.int .i64 x.op_)]
@[go_sem] theorem bW.C_eq (x:bW):bW.C x=[.lit (.string (bs x.MD)),.lit (.int .i64 x.op_)]:=rI rfl
structure dK where
 cF:Int
 fQ:Int
 cP:cR
 mE:Int
def dK.C (x:dK):List V:=[.lit (.int .i64 x.cF),.lit (.int .i64 x.fQ),.lit (.string (bs x.cP)),.lit (.int .u32 x.mE)]
@[go_sem] theorem dK.C_eq (x:dK):dK.C x=[.lit (.int .i64 x.cF),.lit (.int .i64 x.fQ),.lit (.string (bs x.cP)),.lit (.int .u32 x.mE)]:=rI rfl
structure aB where
 cF:Int
 fQ:Int
 cP:cR
 mE:Int
 aP:(List aB)
mutual
def aB.C:aB->List V
 | ⟨a0,a1,a2,a3,a4⟩=>[.lit (.int .i64 a0),.lit (.int .i64 a1),.lit (.string (bs a2)),.lit (.int .u32 a3),.list .none (aB.CL a4)]
def aB.CL:List aB->List (List V)
 | []=>[]
 | x::l=>aB.C x::aB.CL l
end
theorem aB.CL_eq (l:List aB):aB.CL l=l.map aB.C:=by
 induction l with
 | nil=>rfl
 | cons x l ih=>rw [aB.CL,ih];rfl
@[go_sem] theorem aB.C_eq (x:aB):aB.C x=[.lit (.int .i64 x.cF),.lit (.int .i64 x.fQ),.lit (.string (bs x.cP)),.lit (.int .u32 x.mE),.list .none (x.aP.map aB.C)]:=by
 cases x;simp only [aB.C,aB.CL_eq]
structure aC where
 l_:(List dK)
 gC:Int
 sD:Int
 e_:Int
 Aj:Int
def aC.C (x:aC):List V:=[.list .none (x.l_.map dK.C),.lit (.int .i64 x.gC),.lit (.int .i64 x.sD),.lit (.int .i64 x.e_),.lit (.int .i64 x.Aj)]
@[go_sem] theorem aC.C_eq (x:aC):aC.C x=[.list .none (x.l_.map dK.C),.lit (.int .i64 x.gC),.lit (.int .i64 x.sD),.lit (.int .i64 x.e_),.lit (.int .i64 x.Aj)]:=rI rfl
structure aZ where
 jP:cR
 cF:Int
 iV:Int
def aZ.C (x:aZ):List V:=[.lit (.string (bs x.jP)),.lit (.int .i64 x.cF),.lit (.int .i64 x.iV)]
@[go_sem] theorem aZ.C_eq (x:aZ):aZ.C x=[.lit (.string (bs x.jP)),.lit (.int .i64 x.cF),.lit (.int .i64 x.iV)]:=rI rfl
structure aG where
 lE:cR
 cU:Int
 N_:Int
 mD:Int
 aP:(List aG)
 fQ:Int
mutual
def aG.C:aG->List V
 | ⟨a0,a1,a2,a3,a4,a5⟩=>[.lit (.string (bs a0)),.lit (.int .i64 a1),.lit (.int .u32 a2),.lit (.int .i64 a3),.list .none (aG.CL a4),.lit (.int .i64 a5)]
def aG.CL:List aG->List (List V)
 | []=>[]
 | x::l=>aG.C x::aG.CL l
end
theorem aG.CL_eq (l:List aG):aG.CL l=l.map aG.C:=by
 induction l with
 | nil=>rfl
 | cons x l ih=>rw [aG.CL,ih];rfl
@[go_sem] theorem aG.C_eq (x:aG):aG.C x=[.lit (.string (bs x.lE)),.lit (.int .i64 x.cU),.lit (.int .u32 x.N_),.lit (.int .i64 x.mD),.list .none (x.aP.map aG.C),.lit (.int .i64 x.fQ)]:=by
 cases x;simp only [aG.C,aG.CL_eq]
structure aH where
 lE:cR
 mD:Int
 pE:Int
 aP:(List aG)
 eH:(List aH)
 rZ:(List aH)
 fQ:Int
mutual
def aH.C:aH->List V
 | ⟨a0,a1,a2,a3,a4,a5,a6⟩=>[.lit (.string (bs a0)),.lit (.int .i64 a1),.lit (.int .i64 a2),.list .none (a3.map aG.C),.list .none (aH.CL a4),.list .none (aH.CL a5),.lit (.int .i64 a6)]
def aH.CL:List aH->List (List V)
 | []=>[]
 | x::l=>aH.C x::aH.CL l
end
theorem aH.CL_eq (l:List aH):aH.CL l=l.map aH.C:=by
 induction l with
 | nil=>rfl
 | cons x l ih=>rw [aH.CL,ih];rfl
@[go_sem] theorem aH.C_eq (x:aH):aH.C x=[.lit (.string (bs x.lE)),.lit (.int .i64 x.mD),.lit (.int .i64 x.pE),.list .none (x.aP.map aG.C),.list .none (x.eH.map aH.C),.list .none (x.rZ.map aH.C),.lit (.int .i64 x.fQ)]:=by
 cases x;simp only [aH.C,aH.CL_eq]
structure aY where
 jP:cR
 iC:Bool
 cX:Int
 bD:Int
 bB:(List aZ)
 eH:(List aH)
def aY.C (x:aY):List V:=[.lit (.string (bs x.jP)),.lit (.bool x.iC),.lit (.int .i64 x.cX),.lit (.int .i64 x.bD),.list .none (x.bB.map aZ.C),.list .none (x.eH.map aH.C)]
@[go_sem] theorem aY.C_eq (x:aY):aY.C x=[.lit (.string (bs x.jP)),.lit (.bool x.iC),.lit (.int .i64 x.cX),.lit (.int .i64 x.bD),.list .none (x.bB.map aZ.C),.list .none (x.eH.map aH.C)]:=rI rfl
structure aR where
 bG:(List aY)
def aR.C (x:aR):List V:=[.list .none (x.bG.map aY.C)]
@[go_sem] theorem aR.C_eq (x:aR):aR.C x=[.list .none (x.bG.map aY.C)]:=rI rfl
def aR.Z:aR:=⟨[]⟩
structure aI where
 e_:Int
 Aj:Int
structure aD where
 p_:aR
 f_:Int
 bL:List Int
 cJ:List (List Int)
 gC:Int
def aD.Z:aD:=⟨aR.Z,-1,[],[],0⟩
def nU (F fp S C:V) (x:aD) (y:aI):List V:=[F,fp,S,C,.lit (.int .i64 x.gC),.lit (.int .i64 y.e_),.lit (.int .i64 y.Aj)]
@[go_sem] theorem ckC_eq {F fp S C:V} {x:aD} {y:aI}:nU F fp S C x y=[F,fp,S,C,.lit (.int .i64 x.gC),.lit (.int .i64 y.e_),.lit (.int .i64 y.Aj)]:=rI rfl
def fN:List cR:=[[45,62],[46,46],[61,61],[60,60,60],[60,60],[62,62],[60],[40],[41],[123],[125],[91],[93],[44],[59],[58],[61],[43],[45],[42],[47],[37],[38],[124],[94],[126]]
@[go_sem] theorem Pq:(cA cS fN).length=26:=by kernel_rfl
@[go_sem] theorem Or:(cA cS fN).take 26=(cA cS fN):=by kernel_rfl
def cN:List cR:=[[102,110],[101,120,112,111,114,116],[108,101,116],[118,97,114],[97,114,114],[105,102],[101,108,115,101],[102,111,114],[105,110],[114,101,116,117,114,110],[112,117,98],[117,51,50],[117,54,52]]
@[go_sem] theorem MT:(cA cS cN).length=13:=by kernel_rfl
@[go_sem] theorem Lb:Ae 1 13 (cA cS cN)=cN.map cS:=rI rfl
def dE:List (List cR):=[[[124],[],[]],[[94],[],[]],[[38],[],[]],[[61,61],[60],[]],[[60,60],[62,62],[60,60,60]],[[43],[45],[]],[[42],[47],[37]]]
def cZ:List bM:=[(bM.mk [115,101,108,101,99,116] 3),(bM.mk [108,111,110,103] 1),(bM.mk [108,111] 1),(bM.mk [104,105] 1),(bM.mk [119,105,100,101] 2)]
@[go_sem] theorem MV:(cA bM.C cZ).length=10:=by kernel_rfl
@[go_sem] theorem LZ:(cA bM.C cZ).take 10=(cA bM.C cZ):=by kernel_rfl
@[go_sem] theorem KD:(cA bM.C cZ).map V.shared=(cA bM.C cZ):=rI rfl
def dY:List bW:=[(bW.mk [124] 5),(bW.mk [94] 6),(bW.mk [38] 7),(bW.mk [61,61] 8),(bW.mk [60] 9),(bW.mk [60,60] 10),(bW.mk [62,62] 11),(bW.mk [60,60,60] 12),(bW.mk [43] 13),(bW.mk [45] 14),(bW.mk [42] 15),(bW.mk [47] 16),(bW.mk [37] 17),(bW.mk [110,111,116] 3),(bW.mk [110,101,103] 4)]
@[go_sem] theorem Ot:(cA bW.C dY).length=30:=by kernel_rfl
@[go_sem] theorem MU:(cA bW.C dY).take 30=(cA bW.C dY):=by kernel_rfl
@[go_sem] theorem Lc:(cA bW.C dY).map V.shared=(cA bW.C dY):=rI rfl
def Bt (a0:Int):Option Bool:=
 (if a0 == 32 then
    some true
   else
    if a0 == 9 then
     some true
    else
     if a0 == 13 then
      some true
     else
      some (a0 == 10)).bind fun y1=>
 some y1
def gE (a0:cR) (a1:cR):Option Bool:=
 (if decide ((a1.length:Int)<=(a0.length:Int)) then
    gV (0<=(a1.length:Int)/\(a1.length:Int)<=(a0.length:Int)) <|
    some (decide ((a0.take (a1.length:Int).toNat)=a1))
   else
    some false).bind fun y1=>
 some y1
def oD (a0:cR) (a1:cR):Option Bool:=
 (gE a0 a1).bind fun x1=>
 some x1
def pV (a0:cR) (a1:Int):Option Int:=some (Lib.indexByte a0 a1.toNat.toUInt8)
def nI (a0:cR) (a1:Int):Option Int:=
 (pV a0 a1).bind fun x1=>
 some x1
def oC (a0:cR) (a1:Int):Option Int:=
 (nI a0 a1).bind fun x1=>
 some x1
def sE (a0:cR):Nat->Int->Option (Int ⊕ Int)
 | 0,_=>none
 | c4+1,v2=>
   if decide (v2<(a0.length:Int)) then
    (bY a0 v2).bind fun x9=>
    (Bt (x9.toNat:Int)).bind fun x10=>
    if x10 then
     sE a0 c4 (i64.wrap (v2+1))
    else
     gV (0<=v2/\v2<=(a0.length:Int)) <|
     (oD (a0.drop v2.toNat) ([47,47]:cR)).bind fun x17=>
     if x17 then
      gV (0<=v2/\v2<=(a0.length:Int)) <|
      (oC (a0.drop v2.toNat) 10).bind fun x22=>
      if decide (x22<0) then
       some (.inr (a0.length:Int))
      else
       sE a0 c4 (i64.wrap (v2+x22))
     else
      some (.inr v2)
   else
    some (.inl v2)
def Bs (n:Nat) (a0:cR) (a1:Int):Option Int:=
 (sE a0 n a1).bind fun y3=>
 y3.elim (fun y3a=>
  some y3a) (fun y3a=>
  some y3a)
def vW (a0:Int):Option Bool:=
 (if decide (97<=a0) then
    if decide (a0<=122) then
     some true
    else
     some (a0 == 95)
   else
    some (a0 == 95)).bind fun y1=>
 some y1
def xT (a0:Int):Option Bool:=
 (if decide (48<=a0) then
    some (decide (a0<=57))
   else
    some false).bind fun y1=>
 some y1
def uC (a0:cR):Nat->Int->Option (Unit ⊕ cR)
 | 0,_=>none
 | c4+1,v2=>
   if decide (v2<(a0.length:Int)) then
    ((bY a0 v2).bind fun x10=>
      (vW (x10.toNat:Int)).bind fun x11=>
      if !x11 then
       (xT (x10.toNat:Int)).bind fun x18=>
       some (!x18)
      else
       some false).bind fun y9=>
    if y9 then
     gV (0<=v2/\v2<=(a0.length:Int)) <|
     some (.inr (a0.take v2.toNat))
    else
     uC a0 c4 (i64.wrap (v2+1))
   else
    some (.inl ())
def Ds (n:Nat) (a0:cR):Option cR:=
 (uC a0 n 0).bind fun y3=>
 y3.elim (fun y3a=>
  some a0) (fun y3a=>
  some y3a)
def jV (a0:cR) (a1:cR):Option (cR × Bool):=
 (gE a0 a1).bind fun x1=>
 if !x1 then
  some (a0,false)
 else
  gV (0<=(a1.length:Int)/\(a1.length:Int)<=(a0.length:Int)) <|
  some ((a0.drop (a1.length:Int).toNat),true)
def pR (a0:cR) (a1:cR):Option (cR × Bool):=
 (jV a0 a1).bind fun x1=>
 some (x1.1,x1.2)
def sL (x1:(cR × Bool)):Nat->Int->Int->Option (Int ⊕ (Int × Bool))
 | 0,_,_=>none
 | c8+1,v5,v6=>
   if decide (v6<(x1.1.length:Int)) then
    gV ((0:Int)<=16/\16<=(([48,49,50,51,52,53,54,55,56,57,97,98,99,100,101,102]:cR).length:Int)) <|
    (bY x1.1 v6).bind fun x13=>
    (oC (([48,49,50,51,52,53,54,55,56,57,97,98,99,100,101,102]:cR).take (16:Int).toNat) (x13.toNat:Int)).bind fun x14=>
    (if decide (x14<0) then
       some true
      else
       some (decide (4294967295<(i64.wrap ((i64.wrap (v5*16))+x14))))).bind fun y22=>
    if y22 then
     some (.inr (0,false))
    else
     sL x1 c8 (i64.wrap ((i64.wrap (v5*16))+x14)) (i64.wrap (v6+1))
   else
    some (.inl v5)
def sK (a0:cR):Nat->Int->Int->Option (Int ⊕ (Int × Bool))
 | 0,_,_=>none
 | c32+1,v29,v30=>
   if decide (v30<(a0.length:Int)) then
    gV ((0:Int)<=10/\10<=(([48,49,50,51,52,53,54,55,56,57,97,98,99,100,101,102]:cR).length:Int)) <|
    (bY a0 v30).bind fun x37=>
    (oC (([48,49,50,51,52,53,54,55,56,57,97,98,99,100,101,102]:cR).take (10:Int).toNat) (x37.toNat:Int)).bind fun x38=>
    (if decide (x38<0) then
       some true
      else
       some (decide (4294967295<(i64.wrap ((i64.wrap (v29*10))+x38))))).bind fun y46=>
    if y46 then
     some (.inr (0,false))
    else
     sK a0 c32 (i64.wrap ((i64.wrap (v29*10))+x38)) (i64.wrap (v30+1))
   else
    some (.inl v29)
def Br (n:Nat) (a0:cR):Option (Int × Bool):=
 (pR a0 ([48,120]:cR)).bind fun x1=>
 if x1.2=true then
  (sL x1 n 0 0).bind fun y7=>
  y7.elim (fun y7a=>
   some ((u32.wrap y7a),(decide (x1.1 ≠ ([]:cR))))) (fun y7a=>
   some y7a)
 else
  (sK a0 n 0 0).bind fun y31=>
  y31.elim (fun y31a=>
   some ((u32.wrap y31a),(decide (a0 ≠ ([]:cR))))) (fun y31a=>
   some y31a)
def uD (a0:cR):Nat->Int->Option (Unit ⊕ cR)
 | 0,_=>none
 | c4+1,v2=>
   if decide (v2<26) then
    (bY fN v2).bind fun x9=>
    (oD a0 x9).bind fun x17=>
    if x17 then
     some (.inr x9)
    else
     uD a0 c4 (i64.wrap (v2+1))
   else
    some (.inl ())
def Dt (n:Nat) (a0:cR):Option cR:=
 (uD a0 n 0).bind fun y3=>
 y3.elim (fun y3a=>
  some ([]:cR)) (fun y3a=>
  some y3a)
def Du (n:Nat) (a0:cR) (a1:Int):Option (dK × Int):=
 gV (0<=a1/\a1<=(a0.length:Int)) <|
 (Ds n (a0.drop a1.toNat)).bind fun x2=>
 (bY a0 a1).bind fun x7=>
 (vW (x7.toNat:Int)).bind fun x8=>
 if x8 then
  if decide (32<(x2.length:Int)) then
   some ((dK.mk 0 0 [] 0),102)
  else
   some ((dK.mk 1 a1 x2 0),0)
 else
  (xT (x7.toNat:Int)).bind fun x16=>
  if x16 then
   (Br n x2).bind fun x19=>
   if !x19.2 then
    some ((dK.mk 0 0 [] 0),101)
   else
    some ((dK.mk 2 a1 x2 x19.1),0)
  else
   gV (0<=a1/\a1<=(a0.length:Int)) <|
   (Dt n (a0.drop a1.toNat)).bind fun x22=>
   if decide (x22=([]:cR)) then
    some ((dK.mk 0 0 [] 0),100)
   else
    some ((dK.mk 3 a1 x22 0),0)
def rP (n:Nat) (a0:cR):Nat->(List dK)->Int->Option ((List dK) ⊕ ((List dK) × Int × Int))
 | 0,_,_=>none
 | c8+1,v5,v6=>
   if decide (v6<(a0.length:Int)) then
    (Du n a0 v6).bind fun x13=>
    if x13.2 != 0 then
     some (.inr ([],x13.2,v6))
    else
     gV (v5.length+[x13.1].length<=1073741824) <|
     (Bs n a0 (i64.wrap (v6+(x13.1.cP.length:Int)))).bind fun x20=>
     rP n a0 c8 (v5++[x13.1]) x20
   else
    some (.inl v5)
def yS (n:Nat) (a0:cR):Option ((List dK) × Int × Int):=
 if decide (65536<(a0.length:Int)) then
  some ([],161,0)
 else
  (Bs n a0 0).bind fun x2=>
  (rP n a0 n [] x2).bind fun y7=>
  y7.elim (fun y7a=>
   gV (y7a.length+[(dK.mk 4 (a0.length:Int) [] 0)].length<=1073741824) <|
   some ((y7a++[(dK.mk 4 (a0.length:Int) [] 0)]),0,0)) (fun y7a=>
   some y7a)
def eQ (a0:aC):Option dK:=
 (bY a0.l_ a0.gC).bind fun x2=>
 some x2
def gX (a0:aC) (a1:Int):Option aC:=
 if a0.e_ == 0 then
  (eQ a0).bind fun x2=>
  some ({ a0 with e_:=a1,Aj:=x2.fQ }:aC)
 else
  some a0
def fD (a0:aC) (a1:Int):Option (aB × aC):=
 if decide (16384<(i64.wrap (a0.sD+1))) then
  (gX ({ a0 with sD:=(i64.wrap (a0.sD+1)) }:aC) 136).bind fun x3=>
  (eQ x3).bind fun x5=>
  some ((aB.mk a1 x5.fQ [] 0 []),x3)
 else
  (eQ ({ a0 with sD:=(i64.wrap (a0.sD+1)) }:aC)).bind fun x7=>
  some ((aB.mk a1 x7.fQ [] 0 []),({ a0 with sD:=(i64.wrap (a0.sD+1)) }:aC))
def fX (a0:(List cR)) (a1:cR):Nat->Int->Option (Unit ⊕ Int)
 | 0,_=>none
 | c4+1,v2=>
   if decide (v2<(a0.length:Int)) then
    (bY a0 v2).bind fun x9=>
    if decide (a1=x9) then
     some (.inr v2)
    else
     fX a0 a1 c4 (i64.wrap (v2+1))
   else
    some (.inl ())
def kO (n:Nat) (a0:(List cR)) (a1:cR):Option Int:=
 (fX a0 a1 n 0).bind fun y3=>
 y3.elim (fun y3a=>
  some (-1:Int)) (fun y3a=>
  some y3a)
def jI (n:Nat) (a0:(List cR)) (a1:cR):Option Bool:=
 (kO n a0 a1).bind fun x1=>
 some (decide (0<=x1))
def vR (n:Nat) (a0:cR):Option Bool:=
 (jI n cN a0).bind fun x1=>
 some x1
def iT (n:Nat) (a0:aC) (a1:cR):Option Bool:=
 (eQ a0).bind fun x1=>
 (if a0.e_ == 0 then
    if decide (x1.cP=a1) then
     if x1.cF == 3 then
      some true
     else
      if x1.cF == 1 then
       (vR n a1).bind fun x9=>
       some x9
      else
       some false
    else
     some false
   else
    some false).bind fun y4=>
 some y4
def bX (n:Nat) (a0:aC) (a1:cR):Option (Bool × aC):=
 (iT n a0 a1).bind fun x1=>
 if !x1 then
  some (false,a0)
 else
  some (true,({ a0 with gC:=(i64.wrap (a0.gC+1)) }:aC))
def bQ (n:Nat) (a0:aC) (a1:cR):Option aC:=
 (bX n a0 a1).bind fun x1=>
 if !x1.1 then
  (gX x1.2 110).bind fun x4=>
  some x4
 else
  some x1.2
def eN (n:Nat) (a0:aC):Option (cR × aC):=
 (eQ a0).bind fun x1=>
 (if a0.e_ != 0 then
    some true
   else
    if x1.cF != 1 then
     some true
    else
     (vR n x1.cP).bind fun x7=>
     some x7).bind fun y4=>
 if y4 then
  (gX a0 110).bind fun x13=>
  some (([]:cR),x13)
 else
  some (x1.cP,({ a0 with gC:=(i64.wrap (a0.gC+1)) }:aC))
def kE (a0:aC):Option (Int × aC):=
 (eQ a0).bind fun x1=>
 (if a0.e_ != 0 then
    some true
   else
    some (x1.cF != 2)).bind fun y4=>
 if y4 then
  (gX a0 110).bind fun x10=>
  some (0,x10)
 else
  some (x1.mE,({ a0 with gC:=(i64.wrap (a0.gC+1)) }:aC))
def mF (n:Nat) (a0:aC):Option (Int × aC):=
 (bQ n a0 ([91]:cR)).bind fun x1=>
 (kE x1).bind fun x3=>
 (bQ n x3.2 ([93]:cR)).bind fun x5=>
 some (x3.1,x5)
def qJ:List cR:=[([112,117,98]:cR),([117,51,50]:cR),([117,54,52]:cR)]
def iZ (n:Nat):Nat->Int->aC->aB->aB->Option ((aC × aB × aB) ⊕ (aB × aC))
 | 0,_,_,_,_=>none
 | c15+1,v10,v11,v12,v13=>
   if decide (v10<3) then
    (bY qJ v10).bind fun x20=>
    (bX n v11 x20).bind fun x29=>
    if x29.1=true then
     some (.inr (({ v13 with mE:=(u32.wrap (i64.wrap (1+v10))) }:aB),x29.2))
    else
     iZ n c15 (i64.wrap (v10+1)) x29.2 v12 v13
   else
    some (.inl (v11,v12,v13))
def nZ (n:Nat) (a0:aC):Option (aB × aC):=
 (fD a0 3).bind fun x2=>
 (eN n x2.2).bind fun x5=>
 (bQ n x5.2 ([58]:cR)).bind fun x7=>
 (iZ n n 0 x7 (aB.mk 0 0 [] 0 []) ({ x2.1 with cP:=x5.1 }:aB)).bind fun y14=>
 y14.elim (fun y14a=>
  (fD y14a.1 14).bind fun x37=>
  (mF n x37.2).bind fun x40=>
  some (({ y14a.2.2 with mE:=4,aP:=[({ x37.1 with mE:=x40.1 }:aB)] }:aB),x40.2)) (fun y14a=>
  some y14a)
def gK (n:Nat):Nat->(List aB)->aC->Option ((List aB) × aC)
 | 0,_,_=>none
 | c11+1,v8,v9=>
   if v9.e_ == 0 then
    (nZ n v9).bind fun x16=>
    gV (v8.length+[x16.1].length<=1073741824) <|
    (bX n x16.2 ([44]:cR)).bind fun x21=>
    if !x21.1 then
     some ((v8++[x16.1]),x21.2)
    else
     gK n c11 (v8++[x16.1]) x21.2
   else
    some (v8,v9)
def gH (n:Nat) (a0:aC):Option ((List aB) × aC):=
 (bQ n a0 ([40]:cR)).bind fun x1=>
 (bX n x1 ([41]:cR)).bind fun x3=>
 if x3.1=true then
  some ([],x3.2)
 else
  ((gK n n [] x3.2).bind fun y10=>
    some (y10.1,y10.2)).bind fun y6=>
  (bQ n y6.2 ([41]:cR)).bind fun x27=>
  some (y6.1,x27)
def mH (a0:aC) (a1:Int):Option aC:=
 if decide (64<a1) then
  (gX a0 111).bind fun x2=>
  some x2
 else
  some a0
def jS (n:Nat) (x1:(List cR)) (a0:aC):Nat->Int->Option (Unit ⊕ cR)
 | 0,_=>none
 | c15+1,v13=>
   if decide (v13<3) then
    (bY x1 v13).bind fun x20=>
    (if decide (x20 ≠ ([]:cR)) then
       (iT n a0 x20).bind fun x31=>
       some x31
      else
       some false).bind fun y29=>
    if y29 then
     some (.inr x20)
    else
     jS n x1 a0 c15 (i64.wrap (v13+1))
   else
    some (.inl ())
def mG (n:Nat) (a0:aC) (a1:Int):Option cR:=
 (bY dE a1).bind fun x1=>
 (jS n x1 a0 n 0).bind fun y14=>
 y14.elim (fun y14a=>
  some ([]:cR)) (fun y14a=>
  some y14a)
def fI (eP:aC->Int->Option (aB × aC)) (n:Nat) (a1:Int):Nat->(List aB)->aC->Option ((List aB) × aC)
 | 0,_,_=>none
 | c11+1,v8,v9=>
   if v9.e_ == 0 then
    (eP v9 a1).bind fun x16=>
    gV (v8.length+[x16.1].length<=1073741824) <|
    (bX n x16.2 ([44]:cR)).bind fun x21=>
    if !x21.1 then
     some ((v8++[x16.1]),x21.2)
    else
     fI eP n a1 c11 (v8++[x16.1]) x21.2
   else
    some (v8,v9)
def gQ (eP:aC->Int->Option (aB × aC)) (n:Nat) (a0:aC) (a1:Int):Option ((List aB) × aC):=
 (bQ n a0 ([40]:cR)).bind fun x1=>
 (bX n x1 ([41]:cR)).bind fun x3=>
 if x3.1=true then
  some ([],x3.2)
 else
  ((fI eP n a1 n [] x3.2).bind fun y10=>
    some (y10.1,y10.2)).bind fun y6=>
  (bQ n y6.2 ([41]:cR)).bind fun x27=>
  some (y6.1,x27)
def mX (dC:aC->Int->Int->Option (aB × aC)) (n:Nat) (a0:aC) (a1:Int):Option (aB × aC):=
 (dC a0 0 a1).bind fun x2=>
 some (x2.1,x2.2)
def jA (dC:aC->Int->Int->Option (aB × aC)) (n:Nat) (a1:Int) (a2:Int):Nat->cR->aC->aB->Option (aC × aB)
 | 0,_,_,_=>none
 | c15+1,v11,v12,v13=>
   if decide (v11 ≠ ([]:cR)) then
    (fD v12 19).bind fun x20=>
    (bQ n x20.2 v11).bind fun x23=>
    (dC x23 (i64.wrap (a1+1)) a2).bind fun x25=>
    if a1 == 3 then
     some (x25.2,({ x20.1 with cP:=v11,aP:=[v13,x25.1] }:aB))
    else
     (mG n x25.2 a1).bind fun x28=>
     jA dC n a1 a2 c15 x28 x25.2 ({ x20.1 with cP:=v11,aP:=[v13,x25.1] }:aB)
   else
    some (v12,v13)
def lL (dB:aC->Int->Option (aB × aC)) (dC:aC->Int->Int->Option (aB × aC)) (n:Nat) (a0:aC) (a1:Int) (a2:Int):Option (aB × aC):=
 if a1 == 7 then
  (dB a0 a2).bind fun x3=>
  some (x3.1,x3.2)
 else
  (dC a0 (i64.wrap (a1+1)) a2).bind fun x5=>
  (mG n x5.2 a1).bind fun x8=>
  (jA dC n a1 a2 n x8 x5.2 x5.1).bind fun y14=>
  some (y14.2,y14.1)
def mQ:List cR:=[([126]:cR),([45]:cR)]
def iE (dB:aC->Int->Option (aB × aC)) (n:Nat) (a1:Int):Nat->Int->aC->aB->aB->Option ((aC × aB × aB) ⊕ (aB × aC))
 | 0,_,_,_,_=>none
 | c23+1,v18,v19,v20,v21=>
   if decide (v18<2) then
    (bY mQ v18).bind fun x28=>
    (bX n v19 x28).bind fun x37=>
    if x37.1=true then
     (dB x37.2 (i64.wrap (a1+1))).bind fun x40=>
     some (.inr (({ v20 with cF:=18,cP:=x28,aP:=[x40.1] }:aB),x40.2))
    else
     iE dB n a1 c23 (i64.wrap (v18+1)) x37.2 v20 v21
   else
    some (.inl (v19,v20,v21))
def kI (eS:aC->Int->Option (aB × aC)) (dB:aC->Int->Option (aB × aC)) (iI:aC->Int->Option ((List aB) × aC)) (n:Nat) (a0:aC) (a1:Int):Option (aB × aC):=
 (mH a0 a1).bind fun x4=>
 (bX n x4 ([40]:cR)).bind fun x6=>
 if x6.1=true then
  (eS x6.2 (i64.wrap (a1+1))).bind fun x9=>
  (bQ n x9.2 ([41]:cR)).bind fun x12=>
  some (x9.1,x12)
 else
  (fD x6.2 15).bind fun x14=>
  (iE dB n a1 n 0 x14.2 x14.1 (aB.mk 0 0 [] 0 [])).bind fun y22=>
  y22.elim (fun y22a=>
   (if y22a.1.e_ == 0 then
      (eQ y22a.1).bind fun x72=>
      some (x72.cF == 2)
     else
      some false).bind fun y70=>
   if y70 then
    (kE y22a.1).bind fun x78=>
    some (({ y22a.2.1 with cF:=14,mE:=x78.1 }:aB),x78.2)
   else
    (eN n y22a.1).bind fun x80=>
    ((iT n x80.2 ([40]:cR)).bind fun x83=>
      if x83 then
       (iI x80.2 a1).bind fun x86=>
       some (x86.2,({ y22a.2.1 with cF:=17,cP:=x80.1,aP:=x86.1 }:aB))
      else
       (bX n x80.2 ([91]:cR)).bind fun x88=>
       if x88.1=true then
        (eS x88.2 (i64.wrap (a1+1))).bind fun x91=>
        (bQ n x91.2 ([93]:cR)).bind fun x93=>
        some (x93,({ y22a.2.1 with cF:=16,cP:=x80.1,aP:=[x91.1] }:aB))
       else
        some (x88.2,({ y22a.2.1 with cP:=x80.1 }:aB))).bind fun y82=>
    some (y82.2,y82.1)) (fun y22a=>
   some y22a)
def jM (eS:aC->Int->Option (aB × aC)) (n:Nat) (a0:aC) (a1:Int):Option (aB × aC):=
 (eS a0 (i64.wrap (a1+1))).bind fun x2=>
 some (x2.1,x2.2)
def bI:Nat->(aC->Int->Option ((List aB) × aC)) × (aC->Int->Option (aB × aC)) × (aC->Int->Int->Option (aB × aC)) × (aC->Int->Option (aB × aC)) × (aC->Int->Option (aB × aC))
 | 0=>(fun _ _=>none,fun _ _=>none,fun _ _ _=>none,fun _ _=>none,fun _ _=>none)
 | n+1=>(gQ (bI n).2.2.2.2 n,mX (bI n).2.2.1 n,lL (bI n).2.2.2.1 (bI n).2.2.1 n,kI (bI n).2.1 (bI n).2.2.2.1 (bI n).1 n,jM (bI n).2.1 n)
def vT (n:Nat):aC->Int->Option ((List aB) × aC):=(bI n).1
def fE (n:Nat):aC->Int->Option (aB × aC):=(bI n).2.1
def Dl (n:Nat):aC->Int->Int->Option (aB × aC):=(bI n).2.2.1
def BR (n:Nat):aC->Int->Option (aB × aC):=(bI n).2.2.2.1
def As (n:Nat):aC->Int->Option (aB × aC):=(bI n).2.2.2.2
def kP (n:Nat) (a0:aC) (a1:aB) (a2:Int):Option (aB × aC):=
 (eN n a0).bind fun x3=>
 (bQ n x3.2 ([61]:cR)).bind fun x5=>
 (fE n x5 a2).bind fun x7=>
 (bQ n x7.2 ([59]:cR)).bind fun x9=>
 some (({ a1 with cP:=x3.1,aP:=[x7.1] }:aB),x9)
def lJ (n:Nat) (a0:aC) (a1:Int):Option (aB × aC):=
 (fE n a0 (i64.wrap (a1+2))).bind fun x2=>
 some (x2.1,x2.2)
def fY (n:Nat) (a1:Int):Nat->(List aB)->aC->Option ((List aB) × aC)
 | 0,_,_=>none
 | c11+1,v8,v9=>
   if v9.e_ == 0 then
    (lJ n v9 a1).bind fun x16=>
    gV (v8.length+[x16.1].length<=1073741824) <|
    (bX n x16.2 ([44]:cR)).bind fun x21=>
    if !x21.1 then
     some ((v8++[x16.1]),x21.2)
    else
     fY n a1 c11 (v8++[x16.1]) x21.2
   else
    some (v8,v9)
def iL (n:Nat) (a0:aC) (a1:Int):Option ((List aB) × aC):=
 (bQ n a0 ([40]:cR)).bind fun x1=>
 (bX n x1 ([41]:cR)).bind fun x3=>
 if x3.1=true then
  some ([],x3.2)
 else
  ((fY n a1 n [] x3.2).bind fun y10=>
    some (y10.1,y10.2)).bind fun y6=>
  (bQ n y6.2 ([41]:cR)).bind fun x27=>
  some (y6.1,x27)
def nY (n:Nat) (a0:aC) (a1:aB) (a2:Int):Option (aB × aC):=
 (eN n a0).bind fun x5=>
 ((iT n x5.2 ([40]:cR)).bind fun x8=>
   if x8 then
    (iL n x5.2 a2).bind fun x11=>
    some (x11.2,({ a1 with cF:=10,cP:=x5.1,aP:=x11.1 }:aB))
   else
    (bX n x5.2 ([91]:cR)).bind fun x13=>
    if x13.1=true then
     (fE n x13.2 (i64.wrap (a2+2))).bind fun x16=>
     (bQ n x16.2 ([93]:cR)).bind fun x18=>
     (bQ n x18 ([61]:cR)).bind fun x20=>
     (fE n x20 (i64.wrap (a2+1))).bind fun x22=>
     gV ([x16.1].length+[x22.1].length<=1073741824) <|
     some (x22.2,({ a1 with cF:=9,cP:=x5.1,aP:=([x16.1]++[x22.1]) }:aB))
    else
     (bQ n x13.2 ([61]:cR)).bind fun x25=>
     (fE n x25 (i64.wrap (a2+1))).bind fun x27=>
     some (x27.2,({ a1 with cP:=x5.1,aP:=[x27.1] }:aB))).bind fun y7=>
 (bQ n y7.1 ([59]:cR)).bind fun x32=>
 some (y7.2,x32)
def gZ (eO:aC->Int->Option (aB × aC)) (n:Nat) (a1:Int):Nat->aC->aB->Option (aC × aB)
 | 0,_,_=>none
 | c13+1,v10,v11=>
   (if v10.e_ == 0 then
      (iT n v10 ([125]:cR)).bind fun x19=>
      some (!x19)
     else
      some false).bind fun y17=>
   if y17 then
    (eO v10 a1).bind fun x25=>
    gV (v11.aP.length+[x25.1].length<=1073741824) <|
    gZ eO n a1 c13 x25.2 ({ v11 with aP:=(v11.aP++[x25.1]) }:aB)
   else
    some (v10,v11)
def lN (eO:aC->Int->Option (aB × aC)) (n:Nat) (a0:aC) (a1:Int):Option (aB × aC):=
 (mH a0 a1).bind fun x2=>
 (fD x2 4).bind fun x4=>
 (bQ n x4.2 ([123]:cR)).bind fun x7=>
 (gZ eO n a1 n x7 x4.1).bind fun y12=>
 (bQ n y12.1 ([125]:cR)).bind fun x32=>
 some (y12.2,x32)
def jL (mN:aC->aB->Int->Option (aB × aC)) (oF:aC->aB->Int->Option (aB × aC)) (n:Nat) (a0:aC) (a1:Int):Option (aB × aC):=
 (fD a0 8).bind fun x2=>
 ((bX n x2.2 ([108,101,116]:cR)).bind fun x6=>
   if x6.1=true then
    (kP n x6.2 ({ x2.1 with cF:=5 }:aB) (i64.wrap (a1+1))).bind fun x9=>
    some (.inr (x9.1,x9.2))
   else
    (bX n x6.2 ([118,97,114]:cR)).bind fun x11=>
    if x11.1=true then
     (kP n x11.2 ({ x2.1 with cF:=6 }:aB) (i64.wrap (a1+1))).bind fun x14=>
     some (.inr (x14.1,x14.2))
    else
     (bX n x11.2 ([97,114,114]:cR)).bind fun x16=>
     if x16.1=true then
      (eN n x16.2).bind fun x19=>
      (mF n x19.2).bind fun x21=>
      some (.inl (x21.2,({ x2.1 with cF:=7,cP:=x19.1,mE:=x21.1 }:aB)))
     else
      (bX n x16.2 ([114,101,116,117,114,110]:cR)).bind fun x23=>
      if x23.1=true then
       (fE n x23.2 (i64.wrap (a1+1))).bind fun x26=>
       some (.inl (x26.2,({ x2.1 with cF:=13,aP:=[x26.1] }:aB)))
      else
       (bX n x23.2 ([105,102]:cR)).bind fun x28=>
       if x28.1=true then
        (mN x28.2 x2.1 a1).bind fun x31=>
        some (.inr (x31.1,x31.2))
       else
        (bX n x28.2 ([102,111,114]:cR)).bind fun x33=>
        if x33.1=true then
         (oF x33.2 x2.1 a1).bind fun x36=>
         some (.inr (x36.1,x36.2))
        else
         (nY n x33.2 x2.1 a1).bind fun x38=>
         some (.inr (x38.1,x38.2)):Option ((aC × aB) ⊕ (aB × aC))).bind fun y5=>
 y5.elim (fun y5a=>
  (bQ n y5a.1 ([59]:cR)).bind fun x43=>
  some (y5a.2,x43)) (fun y5a=>
  some y5a)
def kR (eL:aC->Int->Option (aB × aC)) (n:Nat) (a0:aC) (a1:aB) (a2:Int):Option (aB × aC):=
 (fE n a0 (i64.wrap (a2+1))).bind fun x3=>
 (eL x3.2 (i64.wrap (a2+1))).bind fun x5=>
 gV ([x3.1].length+[x5.1].length<=1073741824) <|
 (bX n x5.2 ([101,108,115,101]:cR)).bind fun x8=>
 if x8.1=true then
  (eL x8.2 (i64.wrap (a2+1))).bind fun x11=>
  gV (([x3.1]++[x5.1]).length+[x11.1].length<=1073741824) <|
  some (({ a1 with cF:=11,aP:=(([x3.1]++[x5.1])++[x11.1]) }:aB),x11.2)
 else
  some (({ a1 with cF:=11,aP:=([x3.1]++[x5.1]) }:aB),x8.2)
def mW (eL:aC->Int->Option (aB × aC)) (n:Nat) (a0:aC) (a1:aB) (a2:Int):Option (aB × aC):=
 (eN n a0).bind fun x3=>
 (bQ n x3.2 ([105,110]:cR)).bind fun x5=>
 (fE n x5 (i64.wrap (a2+1))).bind fun x7=>
 (bQ n x7.2 ([46,46]:cR)).bind fun x9=>
 (fE n x9 (i64.wrap (a2+1))).bind fun x11=>
 gV ([x7.1].length+[x11.1].length<=1073741824) <|
 (eL x11.2 (i64.wrap (a2+1))).bind fun x14=>
 gV (([x7.1]++[x11.1]).length+[x14.1].length<=1073741824) <|
 some (({ a1 with cF:=12,cP:=x3.1,aP:=(([x7.1]++[x11.1])++[x14.1]) }:aB),x14.2)
def dM:Nat->(aC->Int->Option (aB × aC)) × (aC->Int->Option (aB × aC)) × (aC->aB->Int->Option (aB × aC)) × (aC->aB->Int->Option (aB × aC))
 | 0=>(fun _ _=>none,fun _ _=>none,fun _ _ _=>none,fun _ _ _=>none)
 | n+1=>(lN (dM n).2.1 n,jL (dM n).2.2.1 (dM n).2.2.2 n,kR (dM n).1 n,mW (dM n).1 n)
def eR (n:Nat):aC->Int->Option (aB × aC):=(dM n).1
def Aq (n:Nat):aC->Int->Option (aB × aC):=(dM n).2.1
def CK (n:Nat):aC->aB->Int->Option (aB × aC):=(dM n).2.2.1
def Eb (n:Nat):aC->aB->Int->Option (aB × aC):=(dM n).2.2.2
def kQ (n:Nat) (a0:aC):Option (aB × aC):=
 (fD a0 2).bind fun x2=>
 (bX n x2.2 ([101,120,112,111,114,116]:cR)).bind fun x5=>
 if x5.1=true then
  (bQ n x5.2 ([102,110]:cR)).bind fun x8=>
  (eN n x8).bind fun x10=>
  (gH n x10.2).bind fun x12=>
  (bX n x12.2 ([45,62]:cR)).bind fun x14=>
  if x14.1=true then
   (bX n x14.2 ([117,51,50]:cR)).bind fun x17=>
   if x17.1=true then
    (eR n x17.2 1).bind fun x20=>
    gV (x12.1.length+[x20.1].length<=1073741824) <|
    some (({ x2.1 with cP:=x10.1,mE:=(orK .u32 1 2),aP:=(x12.1++[x20.1]) }:aB),x20.2)
   else
    (bQ n x17.2 ([117,54,52]:cR)).bind fun x25=>
    (eR n x25 1).bind fun x27=>
    gV (x12.1.length+[x27.1].length<=1073741824) <|
    some (({ x2.1 with cP:=x10.1,mE:=(orK .u32 1 4),aP:=(x12.1++[x27.1]) }:aB),x27.2)
  else
   (eR n x14.2 1).bind fun x32=>
   gV (x12.1.length+[x32.1].length<=1073741824) <|
   some (({ x2.1 with cP:=x10.1,mE:=1,aP:=(x12.1++[x32.1]) }:aB),x32.2)
 else
  (bQ n x5.2 ([102,110]:cR)).bind fun x37=>
  (eN n x37).bind fun x39=>
  (gH n x39.2).bind fun x41=>
  (bX n x41.2 ([45,62]:cR)).bind fun x43=>
  if x43.1=true then
   (bX n x43.2 ([117,51,50]:cR)).bind fun x46=>
   if x46.1=true then
    (eR n x46.2 1).bind fun x49=>
    gV (x41.1.length+[x49.1].length<=1073741824) <|
    some (({ x2.1 with cP:=x39.1,mE:=(orK .u32 x2.1.mE 2),aP:=(x41.1++[x49.1]) }:aB),x49.2)
   else
    (bQ n x46.2 ([117,54,52]:cR)).bind fun x54=>
    (eR n x54 1).bind fun x56=>
    gV (x41.1.length+[x56.1].length<=1073741824) <|
    some (({ x2.1 with cP:=x39.1,mE:=(orK .u32 x2.1.mE 4),aP:=(x41.1++[x56.1]) }:aB),x56.2)
  else
   (eR n x43.2 1).bind fun x61=>
   gV (x41.1.length+[x61.1].length<=1073741824) <|
   some (({ x2.1 with cP:=x39.1,aP:=(x41.1++[x61.1]) }:aB),x61.2)
def oZ (n:Nat):Nat->aC->aB->Option (aC × aB)
 | 0,_,_=>none
 | c13+1,v10,v11=>
   (if v10.e_ == 0 then
      (eQ v10).bind fun x19=>
      some (x19.cF != 4)
     else
      some false).bind fun y17=>
   if y17 then
    (kQ n v10).bind fun x25=>
    gV (v11.aP.length+[x25.1].length<=1073741824) <|
    oZ n c13 x25.2 ({ v11 with aP:=(v11.aP++[x25.1]) }:aB)
   else
    some (v10,v11)
def wK (n:Nat) (a0:cR):Option (aB × Int × Int):=
 (yS n a0).bind fun x2=>
 if x2.2.1 != 0 then
  some ((aB.mk 0 0 [] 0 []),x2.2.1,x2.2.2)
 else
  (fD (aC.mk x2.1 0 0 0 0) 1).bind fun x6=>
  (oZ n n x6.2 x6.1).bind fun y12=>
  if y12.1.e_ != 0 then
   some ((aB.mk 0 0 [] 0 []),y12.1.e_,y12.1.Aj)
  else
   some (y12.2,0,0)
def wT (a0:aY) (a1:cR):Option Bool:=
 some (decide (a0.jP=a1))
def cV (a0:(List aY)) (a1:cR):Nat->Int->Option (Unit ⊕ Int)
 | 0,_=>none
 | c4+1,v2=>
   if decide (v2<(a0.length:Int)) then
    (bY a0 v2).bind fun x9=>
    (wT x9 a1).bind fun x10=>
    if x10 then
     some (.inr v2)
    else
     cV a0 a1 c4 (i64.wrap (v2+1))
   else
    some (.inl ())
def eV (n:Nat) (a0:(List aY)) (a1:cR):Option Int:=
 (cV a0 a1 n 0).bind fun y3=>
 y3.elim (fun y3a=>
  some (-1:Int)) (fun y3a=>
  some y3a)
def nJ (n:Nat) (a0:aR) (a1:cR):Option (Int × Bool):=
 (eV n a0.bG a1).bind fun x3=>
 some ((max x3 0),(decide (0<=x3)))
def pT (a0:aD) (a1:aI) (a2:Int) (a3:Int):Option aI:=
 if a1.e_ == 0 then
  some (aI.mk a2 a3)
 else
  some a1
def aW (a0:aD) (a1:aI) (a2:Bool) (a3:Int) (a4:Int):Option aI:=
 if !a2 then
  (pT a0 a1 a3 a4).bind fun x2=>
  some x2
 else
  some a1
def qE (a0:cR):Nat->Int->Option (Unit ⊕ Int)
 | 0,_=>none
 | c4+1,v2=>
   if decide (v2<5) then
    (bY cZ v2).bind fun x9=>
    if decide (x9.MK=a0) then
     some (.inr x9.Nh)
    else
     qE a0 c4 (i64.wrap (v2+1))
   else
    some (.inl ())
def tO (n:Nat) (a0:cR):Option Int:=
 (qE a0 n 0).bind fun y3=>
 y3.elim (fun y3a=>
  some 0) (fun y3a=>
  some y3a)
def vD (a0:Int):Option Int:=
 if (vH .u32 a0 2) != 0 then
  some 2
 else
  if (vH .u32 a0 4) != 0 then
   some 3
  else
   some 0
def iQ (n:Nat) (a2:aB):Nat->Int->aD->aI->Option (aD × aI)
 | 0,_,_,_=>none
 | c9+1,v5,v6,v7=>
   if decide (v5<(a2.aP.length:Int)) then
    (bY a2.aP v5).bind fun x14=>
    (nJ n v6.p_ x14.cP).bind fun x20=>
    (if !x20.2 then
       (tO n x14.cP).bind fun x25=>
       (aW v6 v7 (x25 == 0) 131 x14.fQ).bind fun x26=>
       some x26
      else
       (aW v6 v7 false 131 x14.fQ).bind fun x29=>
       some x29).bind fun y23=>
    (vD x14.mE).bind fun x34=>
    gV (v6.f_<0) <|
    gV (v6.p_.bG.length+1<=1073741824) <|
    iQ n a2 c9 (i64.wrap (v5+1)) ({ v6 with p_:=⟨(v6.p_.bG++[(aY.mk x14.cP ((vH .u32 x14.mE 1) != 0) x34 0 [] [])])⟩ }:aD) y23
   else
    some (v6,v7)
def mZ (n:Nat) (a0:aD) (a1:aI) (a2:aB):Option (aD × aI):=
 (aW a0 a1 (decide ((a2.aP.length:Int)<=64)) 136 a2.fQ).bind fun x2=>
 (iQ n a2 n 0 a0 x2).bind fun y8=>
 gV (0<=(a2.aP.length:Int)/\(a2.aP.length:Int)<=1073741824) <|
 some (({ y8.1 with cJ:=(List.replicate a2.aP.length []) }:aD),y8.2)
def gU (x1:aY):Nat->Int->aD->Option aD
 | 0,_,_=>none
 | c31+1,v28,v29=>
   if decide (v28<x1.bD) then
    gV (v29.bL.length+1<=1073741824) <|
    gU x1 c31 (i64.wrap (v28+1)) ({ v29 with bL:=(v29.bL++[v28]) }:aD)
   else
    some v29
def kG (n:Nat) (a0:aD) (a1:aI) (a2:Int):Option (aD × aI):=
 (bY a0.p_.bG a2).bind fun x1=>
 (gU x1 n 0 ({ a0 with f_:=a2,bL:=[],gC:=a2 }:aD)).bind fun y30=>
 some (y30,a1)
def uH (a0:Int):Option Bool:=
 (if decide (1<=a0) then
    if decide (a0<=255) then
     some true
    else
     if decide (255<a0) then
      if decide (a0<=1024) then
       some ((a0.tmod 4) == 0)
      else
       some false
     else
      some false
   else
    if decide (255<a0) then
     if decide (a0<=1024) then
      some ((a0.tmod 4) == 0)
     else
      some false
    else
     some false).bind fun y1=>
 some y1
def jE (a0:aD) (a2:cR):Nat->Int->Option (Unit ⊕ Int)
 | 0,_=>none
 | c5+1,v3=>
   if decide (0<=v3) then
    (bY a0.p_.bG a0.f_).bind fun x10=>
    (bY a0.bL v3).bind fun x13=>
    (bY x10.bB x13).bind fun x14=>
    if decide (x14.jP=a2) then
     some (.inr x13)
    else
     jE a0 a2 c5 (i64.wrap (v3 - 1))
   else
    some (.inl ())
def kX (n:Nat) (a0:aD) (a1:aI) (a2:cR):Option Int:=
 (jE a0 a2 n (i64.wrap ((a0.bL.length:Int) - 1))).bind fun y4=>
 y4.elim (fun y4a=>
  some (-1:Int)) (fun y4a=>
  some y4a)
def eE (n:Nat) (a0:aD) (a1:aI) (a2:aZ) (a3:Int):Option (Int × aD × aI):=
 (kX n a0 a1 a2.jP).bind fun x2=>
 (aW a0 a1 (decide (x2<0)) 131 a3).bind fun x3=>
 (bY a0.p_.bG a0.f_).bind fun x6=>
 (aW a0 x3 (decide ((x6.bB.length:Int)<250)) 136 a3).bind fun x9=>
 if x9.e_ != 0 then
  some ((-1:Int),a0,x9)
 else
  gV (x6.bB.length+1<=1073741824) <|
  gV (a0.bL.length+1<=1073741824) <|
  some ((x6.bB.length:Int),({ a0 with p_:=⟨(a0.p_.bG.set a0.f_.toNat { x6 with bB:=(x6.bB++[a2]) })⟩,bL:=(a0.bL++[(x6.bB.length:Int)]) }:aD),x9)
def iG (n:Nat) (a2:(List aB)):Nat->Int->aD->aI->Option (aD × aI)
 | 0,_,_,_=>none
 | c6+1,v2,v3,v4=>
   if decide (v2<(a2.length:Int)) then
    ((bY a2 v2).bind fun x12=>
      (if (i64.wrap x12.mE) == 4 then
         some (decide (0<(x12.aP.length:Int)))
        else
         some false).bind fun y19=>
      if y19 then
       (bY x12.aP 0).bind fun x25=>
       (uH (i64.wrap x25.mE)).bind fun x31=>
       (aW v3 v4 x31 136 x12.fQ).bind fun x32=>
       (eE n v3 x32 (aZ.mk x12.cP (i64.wrap x12.mE) (i64.wrap x25.mE)) x12.fQ).bind fun x35=>
       some (x35.2.1,x35.2.2)
      else
       (eE n v3 v4 (aZ.mk x12.cP (i64.wrap x12.mE) 0) x12.fQ).bind fun x37=>
       some (x37.2.1,x37.2.2)).bind fun y11=>
    iG n a2 c6 (i64.wrap (v2+1)) y11.1 y11.2
   else
    some (v3,v4)
def oV (n:Nat) (a0:aD) (a1:aI) (a2:(List aB)):Option (aD × aI):=
 (iG n a2 n 0 a0 a1).bind fun y5=>
 (bY y5.1.p_.bG y5.1.f_).bind fun x61=>
 some (({ y5.1 with p_:=⟨(y5.1.p_.bG.set y5.1.f_.toNat { x61 with bD:=(x61.bB.length:Int) })⟩ }:aD),y5.2)
def mI (a0:aY):Nat->Int->Int->Option Int
 | 0,_,_=>none
 | c8+1,v5,v6=>
   if decide (v6<((a0.bB.take a0.bD.toNat).length:Int)) then
    ((bY (a0.bB.take a0.bD.toNat) v6).bind fun x14=>
      if x14.cF == 3 then
       some (i64.wrap ((i64.wrap (v5+(i64.wrap ((v5.tmod 2)+1))))+1))
      else
       some (i64.wrap (v5+1))).bind fun y13=>
    mI a0 c8 y13 (i64.wrap (v6+1))
   else
    some v5
def qP (n:Nat) (a0:aY):Option Int:=
 gV (0<=a0.bD/\a0.bD<=(a0.bB.length:Int)) <|
 (mI a0 n 0 0).bind fun y7=>
 some y7
def jN (n:Nat) (a0:aD) (a1:aI) (a2:Int) (a3:aB):Option (aD × aI):=
 (kG n a0 a1 a2).bind fun x2=>
 gV (0<=(max (i64.wrap ((a3.aP.length:Int) - 1)) 0)/\(max (i64.wrap ((a3.aP.length:Int) - 1)) 0)<=(a3.aP.length:Int)) <|
 (oV n x2.1 x2.2 (a3.aP.take (max (i64.wrap ((a3.aP.length:Int) - 1)) 0).toNat)).bind fun x4=>
 if x4.2.e_ == 0 then
  ((bY x4.1.p_.bG x4.1.f_).bind fun x10=>
    if !x10.iC then
     (aW x4.1 x4.2 true 136 a3.fQ).bind fun x27=>
     some x27
    else
     (qP n x10).bind fun x29=>
     (aW x4.1 x4.2 (decide (x29<=4)) 136 a3.fQ).bind fun x30=>
     some x30).bind fun y9=>
  some (x4.1,y9)
 else
  some (x4.1,x4.2)
def fK (a0:aD) (a1:aI) (a2:Int):Option Int:=
 if decide (a2<0) then
  some 0
 else
  (bY a0.p_.bG a0.f_).bind fun x2=>
  (bY x2.bB a2).bind fun x5=>
  some x5.cF
def gS (n:Nat) (a0:aD) (a1:aI) (a2:aB):Option (Int × aI):=
 (kX n a0 a1 a2.cP).bind fun x2=>
 (aW a0 a1 (decide (0<=x2)) 130 a2.fQ).bind fun x4=>
 some (x2,x4)
def sP (a0:Int) (a1:Int):Option Int:=
 (if a0 == a1 then
    if decide (1<=a0) then
     some (decide (a0<=3))
    else
     some false
   else
    some false).bind fun y1=>
 if y1 then
  some a0
 else
  (if a0 == 1 then
     if a1 == 2 then
      some true
     else
      if a0 == 2 then
       some (a1 == 1)
      else
       some false
    else
     if a0 == 2 then
      some (a1 == 1)
     else
      some false).bind fun y8=>
  if y8 then
   some 2
  else
   some 0
def cT (a0:aD) (a1:aI) (a2:aG) (a3:Int):Option (aG × aI):=
 (aW a0 a1 (a3 != 0) 132 a2.fQ).bind fun x3=>
 some (({ a2 with cU:=a3 }:aG),x3)
def gW (a0:aD) (a1:aI) (a2:aG) (a3:aG) (a4:aG):Option (aG × aI):=
 (aW a0 a1 (a4.cU == 1) 133 a4.fQ).bind fun x5=>
 if a3.cU == 3 then
  (if decide (a4.lE=([110,117,109]:cR)) then
     (aW a0 x5 (decide (a4.N_<=63)) 132 a2.fQ).bind fun x10=>
     some x10
    else
     (aW a0 x5 false 132 a2.fQ).bind fun x12=>
     some x12).bind fun y8=>
  (cT a0 y8 a2 a3.cU).bind fun x17=>
  some (x17.1,x17.2)
 else
  (cT a0 x5 a2 a3.cU).bind fun x19=>
  some (x19.1,x19.2)
def sO (a0:Int):Option Int:=
 if a0 == 1 then
  some 2
 else
  some a0
def pX (a0:Int):Option Bool:=
 (if a0 == 1 then
    some true
   else
    some (a0 == 2)).bind fun y1=>
 some y1
def lY (a0:aD) (a1:aI) (a2:aG):Option Int:=
 (bY a2.aP 1).bind fun x2=>
 (bY a2.aP 2).bind fun x3=>
 (sP x2.cU x3.cU).bind fun x4=>
 ((bY a2.aP 0).bind fun x17=>
   (pX x17.cU).bind fun x18=>
   if !x18 then
    some true
   else
    some (x4 == 0)).bind fun y16=>
 if y16 then
  some 0
 else
  (sO x4).bind fun x30=>
  some x30
def lW (nR:aD->aI->aB->aG->Option (aG × aI)) (mP:aD->aI->aB->aG->Option (aG × aI)) (lH:aD->aI->aB->aG->Option (aG × aI)) (lC:aD->aI->aB->aG->Option (aG × aI)) (n:Nat) (a0:aD) (a1:aI) (a2:aB):Option (aG × aI):=
 if a2.cF == 14 then
  some ((aG.mk ([110,117,109]:cR) 1 a2.mE (-1:Int) [] a2.fQ),a1)
 else
  if a2.cF == 15 then
   (gS n a0 a1 a2).bind fun x6=>
   (fK a0 x6.2 x6.1).bind fun x8=>
   (aW a0 x6.2 (x8 != 4) 132 a2.fQ).bind fun x10=>
   some ((aG.mk ([118,97,114]:cR) x8 0 x6.1 [] a2.fQ),x10)
  else
   if a2.cF == 16 then
    (nR a0 a1 a2 (aG.mk [] 0 0 (-1:Int) [] a2.fQ)).bind fun x13=>
    some (x13.1,x13.2)
   else
    if a2.cF == 18 then
     (mP a0 a1 a2 (aG.mk [] 0 0 (-1:Int) [] a2.fQ)).bind fun x16=>
     some (x16.1,x16.2)
    else
     if a2.cF == 19 then
      (lH a0 a1 a2 (aG.mk [] 0 0 (-1:Int) [] a2.fQ)).bind fun x19=>
      some (x19.1,x19.2)
     else
      (lC a0 a1 a2 (aG.mk [] 0 0 (-1:Int) [] a2.fQ)).bind fun x21=>
      some (x21.1,x21.2)
def lV (dL:aD->aI->aB->Option (aG × aI)) (n:Nat) (a0:aD) (a1:aI) (a2:aB) (a3:aG):Option (aG × aI):=
 (bY a2.aP 0).bind fun x4=>
 (dL a0 a1 x4).bind fun x5=>
 (gS n a0 x5.2 a2).bind fun x13=>
 (fK a0 x13.2 x13.1).bind fun x15=>
 (aW a0 x13.2 (x15 == 4) 132 a2.fQ).bind fun x16=>
 (aW a0 x16 (x5.1.cU == 1) 133 x5.1.fQ).bind fun x19=>
 (if x19.e_ == 0 then
    some (decide (x5.1.lE=([110,117,109]:cR)))
   else
    some false).bind fun y21=>
 if y21 then
  (bY a0.p_.bG a0.f_).bind fun x27=>
  (bY x27.bB x13.1).bind fun x30=>
  (aW a0 x19 (decide ((i64.wrap x5.1.N_)<x30.iV)) 137 x5.1.fQ).bind fun x31=>
  some (({ a3 with lE:=([105,110,100,101,120]:cR),cU:=2,mD:=x13.1,aP:=[x5.1] }:aG),x31)
 else
  some (({ a3 with lE:=([105,110,100,101,120]:cR),cU:=2,mD:=x13.1,aP:=[x5.1] }:aG),x19)
def kU (dJ:aD->aI->(List aB)->Option ((List aG) × aI)) (n:Nat) (a0:aD) (a1:aI) (a2:aB) (a3:aG):Option (aG × aI):=
 (dJ a0 a1 a2.aP).bind fun x4=>
 if decide (a2.cP=([45]:cR)) then
  (bY x4.1 0).bind fun x7=>
  some (({ a3 with lE:=([110,101,103]:cR),cU:=x7.cU,aP:=x4.1 }:aG),x4.2)
 else
  (bY x4.1 0).bind fun x13=>
  some (({ a3 with lE:=([110,111,116]:cR),cU:=x13.cU,aP:=x4.1 }:aG),x4.2)
def kK (dJ:aD->aI->(List aB)->Option ((List aG) × aI)) (n:Nat) (a0:aD) (a1:aI) (a2:aB) (a3:aG):Option (aG × aI):=
 (dJ a0 a1 a2.aP).bind fun x4=>
 (bY x4.1 0).bind fun x6=>
 (bY x4.1 1).bind fun x9=>
 (sP x6.cU x9.cU).bind fun x20=>
 if decide (a2.cP=([47]:cR)) then
  (aW a0 x4.2 (x6.cU == 1) 133 x6.fQ).bind fun x23=>
  (aW a0 x23 (x9.cU == 1) 133 x9.fQ).bind fun x25=>
  (cT a0 x25 ({ a3 with lE:=a2.cP,aP:=x4.1 }:aG) 1).bind fun x27=>
  some (x27.1,x27.2)
 else
  if decide (a2.cP=([37]:cR)) then
   (aW a0 x4.2 (x6.cU == 1) 133 x6.fQ).bind fun x30=>
   (aW a0 x30 (x9.cU == 1) 133 x9.fQ).bind fun x32=>
   (cT a0 x32 ({ a3 with lE:=a2.cP,aP:=x4.1 }:aG) 1).bind fun x34=>
   some (x34.1,x34.2)
  else
   if decide (a2.cP=([60,60]:cR)) then
    (gW a0 x4.2 ({ a3 with lE:=a2.cP,aP:=x4.1 }:aG) x6 x9).bind fun x37=>
    some (x37.1,x37.2)
   else
    if decide (a2.cP=([62,62]:cR)) then
     (gW a0 x4.2 ({ a3 with lE:=a2.cP,aP:=x4.1 }:aG) x6 x9).bind fun x40=>
     some (x40.1,x40.2)
    else
     if decide (a2.cP=([60,60,60]:cR)) then
      (gW a0 x4.2 ({ a3 with lE:=a2.cP,aP:=x4.1 }:aG) x6 x9).bind fun x43=>
      some (x43.1,x43.2)
     else
      if decide (a2.cP=([42]:cR)) then
       (aW a0 x4.2 (x20 != 3) 132 a2.fQ).bind fun x46=>
       (cT a0 x46 ({ a3 with lE:=a2.cP,aP:=x4.1 }:aG) x20).bind fun x48=>
       some (x48.1,x48.2)
      else
       if decide (a2.cP=([61,61]:cR)) then
        if x20 == 3 then
         (cT a0 x4.2 ({ a3 with lE:=a2.cP,aP:=x4.1 }:aG) 2).bind fun x52=>
         some (x52.1,x52.2)
        else
         (cT a0 x4.2 ({ a3 with lE:=a2.cP,aP:=x4.1 }:aG) x20).bind fun x54=>
         some (x54.1,x54.2)
       else
        if decide (a2.cP=([60]:cR)) then
         if x20 == 3 then
          (cT a0 x4.2 ({ a3 with lE:=a2.cP,aP:=x4.1 }:aG) 2).bind fun x58=>
          some (x58.1,x58.2)
         else
          (cT a0 x4.2 ({ a3 with lE:=a2.cP,aP:=x4.1 }:aG) x20).bind fun x60=>
          some (x60.1,x60.2)
        else
         (cT a0 x4.2 ({ a3 with lE:=a2.cP,aP:=x4.1 }:aG) x20).bind fun x62=>
         some (x62.1,x62.2)
def jX (dJ:aD->aI->(List aB)->Option ((List aG) × aI)) (n:Nat) (a0:aD) (a1:aI) (a2:aB) (a3:aG):Option (aG × aI):=
 (tO n a2.cP).bind fun x4=>
 (aW a0 a1 (decide (0<x4)) 130 a2.fQ).bind fun x6=>
 (aW a0 x6 ((a2.aP.length:Int) == x4) 136 a2.fQ).bind fun x8=>
 (dJ a0 x8 a2.aP).bind fun x10=>
 if x10.2.e_ != 0 then
  some (({ a3 with lE:=a2.cP,aP:=x10.1 }:aG),x10.2)
 else
  (bY x10.1 0).bind fun x13=>
  if decide (a2.cP=([115,101,108,101,99,116]:cR)) then
   (lY a0 x10.2 ({ a3 with lE:=a2.cP,aP:=x10.1 }:aG)).bind fun x20=>
   (cT a0 x10.2 ({ a3 with lE:=a2.cP,aP:=x10.1 }:aG) x20).bind fun x21=>
   some (x21.1,x21.2)
  else
   if decide (a2.cP=([108,111,110,103]:cR)) then
    (pX x13.cU).bind fun x25=>
    (aW a0 x10.2 x25 132 a2.fQ).bind fun x26=>
    (cT a0 x26 ({ a3 with lE:=a2.cP,aP:=x10.1 }:aG) 3).bind fun x29=>
    some (x29.1,x29.2)
   else
    if decide (a2.cP=([119,105,100,101]:cR)) then
     ((pX x13.cU).bind fun x33=>
       if x33 then
        (bY x10.1 1).bind fun x36=>
        (pX x36.cU).bind fun x37=>
        (aW a0 x10.2 x37 132 a2.fQ).bind fun x38=>
        some x38
       else
        (aW a0 x10.2 false 132 a2.fQ).bind fun x46=>
        some x46).bind fun y32=>
     (cT a0 y32 ({ a3 with lE:=a2.cP,aP:=x10.1 }:aG) 3).bind fun x51=>
     some (x51.1,x51.2)
    else
     (aW a0 x10.2 (x13.cU == 3) 132 a2.fQ).bind fun x53=>
     (cT a0 x53 ({ a3 with lE:=a2.cP,aP:=x10.1 }:aG) 2).bind fun x55=>
     some (x55.1,x55.2)
def jU (dL:aD->aI->aB->Option (aG × aI)) (a2:(List aB)) (a0:aD):Nat->(List aG)->Int->aI->Option ((List aG) × aI)
 | 0,_,_,_=>none
 | c6+1,v2,v3,v4=>
   if decide (v3<(a2.length:Int)) then
    (bY a2 v3).bind fun x11=>
    (dL a0 v4 x11).bind fun x17=>
    gV (v2.length+[x17.1].length<=1073741824) <|
    jU dL a2 a0 c6 (v2++[x17.1]) (i64.wrap (v3+1)) x17.2
   else
    some (v2,v4)
def nD (dL:aD->aI->aB->Option (aG × aI)) (n:Nat) (a0:aD) (a1:aI) (a2:(List aB)):Option ((List aG) × aI):=
 (jU dL a2 a0 n [] 0 a1).bind fun y5=>
 some (y5.1,y5.2)
def cE:Nat->(aD->aI->aB->Option (aG × aI)) × (aD->aI->aB->aG->Option (aG × aI)) × (aD->aI->aB->aG->Option (aG × aI)) × (aD->aI->aB->aG->Option (aG × aI)) × (aD->aI->aB->aG->Option (aG × aI)) × (aD->aI->(List aB)->Option ((List aG) × aI))
 | 0=>(fun _ _ _=>none,fun _ _ _ _=>none,fun _ _ _ _=>none,fun _ _ _ _=>none,fun _ _ _ _=>none,fun _ _ _=>none)
 | n+1=>(lW (cE n).2.1 (cE n).2.2.1 (cE n).2.2.2.1 (cE n).2.2.2.2.1 n,lV (cE n).1 n,kU (cE n).2.2.2.2.2 n,kK (cE n).2.2.2.2.2 n,jX (cE n).2.2.2.2.2 n,nD (cE n).1 n)
def gT (n:Nat):aD->aI->aB->Option (aG × aI):=(cE n).1
def Do (n:Nat):aD->aI->aB->aG->Option (aG × aI):=(cE n).2.1
def CQ (n:Nat):aD->aI->aB->aG->Option (aG × aI):=(cE n).2.2.1
def Ce (n:Nat):aD->aI->aB->aG->Option (aG × aI):=(cE n).2.2.2.1
def Bn (n:Nat):aD->aI->aB->aG->Option (aG × aI):=(cE n).2.2.2.2.1
def Ed (n:Nat):aD->aI->(List aB)->Option ((List aG) × aI):=(cE n).2.2.2.2.2
def fG (n:Nat) (a0:aD) (a1:aI) (a2:aB):Option (aG × aI):=
 (gT n a0 a1 a2).bind fun x3=>
 (aW a0 x3.2 (x3.1.cU == 1) 133 a2.fQ).bind fun x6=>
 some (x3.1,x6)
def kJ (n:Nat) (a0:aD) (a1:aI) (a2:aB):Option (Int × aI):=
 (nJ n a0.p_ a2.cP).bind fun x2=>
 (aW a0 a1 x2.2 130 a2.fQ).bind fun x5=>
 some (x2.1,x5)
def lT (a0:aD) (a1:aI) (a2:Int):Option (List aZ):=
 (bY a0.p_.bG a2).bind fun x1=>
 gV (0<=x1.bD/\x1.bD<=(x1.bB.length:Int)) <|
 some (x1.bB.take (x1.bD.toNat))
def sH (a0:Int) (a1:Int):Option Bool:=
 (if a0 == a1 then
    some true
   else
    if a0 == 1 then
     some (a1 == 2)
    else
     some false).bind fun y1=>
 some y1
def nC (n:Nat) (a0:aD) (a1:aI) (a2:aB) (a3:Int):Option (aG × aI):=
 (aW a0 a1 (a2.cF == 15) 132 a2.fQ).bind fun x3=>
 (gS n a0 x3 a2).bind fun x5=>
 ((fK a0 x5.2 x5.1).bind fun x8=>
   if x8 == 4 then
    (bY a0.p_.bG a0.f_).bind fun x11=>
    (bY x11.bB (max x5.1 0)).bind fun x14=>
    (aW a0 x5.2 (x14.iV == a3) 132 a2.fQ).bind fun x15=>
    some x15
   else
    (aW a0 x5.2 false 132 a2.fQ).bind fun x40=>
    some x40).bind fun y7=>
 some ((aG.mk ([118,97,114]:cR) 4 0 x5.1 [] a2.fQ),y7)
def kL (n:Nat) (a0:aD) (a1:aI) (a2:aB) (a3:aZ):Option (aG × aI):=
 if a3.cF == 4 then
  (nC n a0 a1 a2 a3.iV).bind fun x5=>
  some (x5.1,x5.2)
 else
  if a3.cF == 1 then
   (fG n a0 a1 a2).bind fun x8=>
   some (x8.1,x8.2)
  else
   (gT n a0 a1 a2).bind fun x10=>
   (sH x10.1.cU a3.cF).bind fun x13=>
   (aW a0 x10.2 x13 132 a2.fQ).bind fun x14=>
   some (x10.1,x14)
def jG (n:Nat) (a2:aB) (x20:(List aZ)) (a0:aD) (x7:(List Int)) (x4:(Int × aI)):Nat->Int->aI->aH->Option (aI × aH)
 | 0,_,_,_=>none
 | c29+1,v25,v26,v27=>
   if decide (v25<(a2.aP.length:Int)) then
    (bY a2.aP v25).bind fun x34=>
    if v26.e_ != 0 then
     some (v26,v27)
    else
     (bY x20 v25).bind fun x41=>
     (kL n ({ a0 with cJ:=(a0.cJ.set a0.gC.toNat (x7++[x4.1])) }:aD) v26 x34 x41).bind fun x42=>
     gV (v27.aP.length+[x42.1].length<=1073741824) <|
     jG n a2 x20 a0 x7 x4 c29 (i64.wrap (v25+1)) x42.2 ({ v27 with aP:=(v27.aP++[x42.1]) }:aH)
   else
    some (v26,v27)
def iD (n:Nat) (a0:aD) (a1:aI) (a2:aB) (a3:aH) (a4:Int):Option (aH × aD × aI):=
 (kJ n a0 a1 a2).bind fun x4=>
 if x4.2.e_ != 0 then
  some (({ a3 with lE:=([99,97,108,108]:cR),mD:=a4,pE:=x4.1,aP:=[] }:aH),a0,x4.2)
 else
  (bY a0.cJ a0.gC).bind fun x7=>
  gV (x7.length+1<=1073741824) <|
  (lT ({ a0 with cJ:=(a0.cJ.set a0.gC.toNat (x7++[x4.1])) }:aD) x4.2 x4.1).bind fun x20=>
  (aW ({ a0 with cJ:=(a0.cJ.set a0.gC.toNat (x7++[x4.1])) }:aD) x4.2 ((a2.aP.length:Int) == (x20.length:Int)) 136 a2.fQ).bind fun x22=>
  (jG n a2 x20 a0 x7 x4 n 0 x22 ({ a3 with lE:=([99,97,108,108]:cR),mD:=a4,pE:=x4.1,aP:=[] }:aH)).bind fun y28=>
  some (y28.2,({ a0 with cJ:=(a0.cJ.set a0.gC.toNat (x7++[x4.1])) }:aD),y28.1)
def iK (n:Nat) (a0:aD) (a1:aI) (a2:aB):Option Bool:=
 (if a2.cF == 17 then
    (tO n a2.cP).bind fun x4=>
    some (x4 == 0)
   else
    some false).bind fun y2=>
 some y2
def nB (n:Nat) (a0:aD) (a1:aI) (a2:aB) (a3:aH):Option (aH × aD × aI):=
 (bY a2.aP 0).bind fun x4=>
 (iK n a0 a1 x4).bind fun x5=>
 if x5 then
  (iD n a0 a1 x4 ({ a3 with aP:=[] }:aH) (-1:Int)).bind fun x13=>
  if x13.2.2.e_ != 0 then
   some (({ x13.1 with fQ:=a2.fQ }:aH),x13.2.1,x13.2.2)
  else
   (bY x13.2.1.p_.bG x13.1.pE).bind fun x16=>
   (aW x13.2.1 x13.2.2 (x16.cX != 0) 132 a2.fQ).bind fun x30=>
   (eE n x13.2.1 x30 (aZ.mk a2.cP x16.cX 0) a2.fQ).bind fun x32=>
   some (({ x13.1 with mD:=x32.1,fQ:=a2.fQ }:aH),x32.2.1,x32.2.2)
 else
  (gT n a0 a1 x4).bind fun x34=>
  (sO x34.1.cU).bind fun x37=>
  (eE n a0 x34.2 (aZ.mk a2.cP x37 0) a2.fQ).bind fun x38=>
  some (({ a3 with lE:=([118,97,114]:cR),mD:=x38.1,aP:=[x34.1] }:aH),x38.2.1,x38.2.2)
def kW (n:Nat) (a0:aD) (a1:aI) (a2:aB):Option (Int × aI):=
 (gS n a0 a1 a2).bind fun x2=>
 (fK a0 x2.2 x2.1).bind fun x4=>
 (if x4 == 2 then
    (aW a0 x2.2 true 132 a2.fQ).bind fun x8=>
    some x8
   else
    (aW a0 x2.2 (x4 == 3) 132 a2.fQ).bind fun x10=>
    some x10).bind fun y6=>
 some (x2.1,y6)
def oN (n:Nat) (a0:aD) (a1:aI) (a2:aB) (a3:aH):Option (aH × aD × aI):=
 (kW n a0 a1 a2).bind fun x4=>
 (bY a2.aP 0).bind fun x6=>
 (iK n a0 x4.2 x6).bind fun x7=>
 if x7 then
  (iD n a0 x4.2 x6 ({ a3 with aP:=[] }:aH) x4.1).bind fun x15=>
  if x15.2.2.e_ == 0 then
   (fK x15.2.1 x15.2.2 x4.1).bind fun x18=>
   (bY x15.2.1.p_.bG x15.1.pE).bind fun x19=>
   (aW x15.2.1 x15.2.2 (x19.cX == x18) 132 a2.fQ).bind fun x21=>
   some (({ x15.1 with fQ:=a2.fQ }:aH),x15.2.1,x21)
  else
   some (({ x15.1 with fQ:=a2.fQ }:aH),x15.2.1,x15.2.2)
 else
  (gT n a0 x4.2 x6).bind fun x36=>
  (fK a0 x36.2 x4.1).bind fun x39=>
  (sH x36.1.cU x39).bind fun x40=>
  (aW a0 x36.2 x40 132 a2.fQ).bind fun x41=>
  some (({ a3 with lE:=([115,101,116]:cR),mD:=x4.1,aP:=[x36.1] }:aH),a0,x41)
def nA (n:Nat) (a0:aD) (a1:aI) (a2:aB) (a3:Int):Option (aG × aI):=
 (fG n a0 a1 a2).bind fun x3=>
 (if x3.2.e_ == 0 then
    some (decide (x3.1.lE=([110,117,109]:cR)))
   else
    some false).bind fun y6=>
 if y6 then
  (bY a0.p_.bG a0.f_).bind fun x12=>
  (bY x12.bB a3).bind fun x15=>
  (aW a0 x3.2 (decide ((i64.wrap x3.1.N_)<x15.iV)) 137 a2.fQ).bind fun x16=>
  some (x3.1,x16)
 else
  some (x3.1,x3.2)
def oO (n:Nat) (a0:aD) (a1:aI) (a2:aB) (a3:aH):Option (aH × aI):=
 (gS n a0 a1 a2).bind fun x4=>
 (fK a0 x4.2 x4.1).bind fun x6=>
 (aW a0 x4.2 (x6 == 4) 132 a2.fQ).bind fun x7=>
 (bY a2.aP 0).bind fun x10=>
 (nA n a0 x7 x10 x4.1).bind fun x11=>
 (bY a2.aP 1).bind fun x19=>
 (gT n a0 x11.2 x19).bind fun x20=>
 (sH x20.1.cU 2).bind fun x28=>
 (aW a0 x20.2 x28 132 a2.fQ).bind fun x29=>
 some (({ a3 with lE:=([112,117,116]:cR),mD:=x4.1,aP:=[x11.1,x20.1] }:aH),x29)
def oB (n:Nat) (a0:aD) (a1:aI) (a2:aB) (a3:aH) (a4:Bool):Option (aH × aD × aI):=
 (if a4 then
    (bY a0.p_.bG a0.f_).bind fun x6=>
    (aW a0 a1 (x6.cX != 0) 135 a2.fQ).bind fun x9=>
    some x9
   else
    (aW a0 a1 false 135 a2.fQ).bind fun x24=>
    some x24).bind fun y4=>
 (if y4.e_ == 0 then
    (bY a2.aP 0).bind fun x31=>
    (iK n a0 y4 x31).bind fun x32=>
    some x32
   else
    some false).bind fun y29=>
 if y29 then
  (bY a2.aP 0).bind fun x43=>
  (iD n a0 y4 x43 ({ a3 with aP:=[] }:aH) (-2:Int)).bind fun x44=>
  if x44.2.2.e_ == 0 then
   (bY x44.2.1.p_.bG x44.1.pE).bind fun x52=>
   (bY x44.2.1.p_.bG x44.2.1.f_).bind fun x54=>
   (aW x44.2.1 x44.2.2 (x52.cX == x54.cX) 132 a2.fQ).bind fun x57=>
   some (({ x44.1 with fQ:=a2.fQ }:aH),x44.2.1,x57)
  else
   some (({ x44.1 with fQ:=a2.fQ }:aH),x44.2.1,x44.2.2)
 else
  (bY a2.aP 0).bind fun x83=>
  (gT n a0 y4 x83).bind fun x84=>
  (bY a0.p_.bG a0.f_).bind fun x92=>
  (sH x84.1.cU x92.cX).bind fun x95=>
  (aW a0 x84.2 x95 132 a2.fQ).bind fun x96=>
  some (({ a3 with lE:=([114,101,116,117,114,110]:cR),aP:=[x84.1] }:aH),a0,x96)
def iR (dT:aD->aI->aB->Bool->Option (aH × aD × aI)) (a2:aB) (a3:Bool):Nat->(List aH)->Int->aD->aI->Option ((List aH) × aD × aI)
 | 0,_,_,_,_=>none
 | c9+1,v4,v5,v6,v7=>
   if decide (v5<(a2.aP.length:Int)) then
    (bY a2.aP v5).bind fun x14=>
    if v7.e_ != 0 then
     some (v4,v6,v7)
    else
     (if a3 then
        (dT v6 v7 x14 (v5 == (i64.wrap ((a2.aP.length:Int) - 1)))).bind fun x28=>
        gV (v4.length+[x28.1].length<=1073741824) <|
        some ((v4++[x28.1]),x28.2.1,x28.2.2)
       else
        (dT v6 v7 x14 false).bind fun x33=>
        gV (v4.length+[x33.1].length<=1073741824) <|
        some ((v4++[x33.1]),x33.2.1,x33.2.2)).bind fun y26=>
     iR dT a2 a3 c9 y26.1 (i64.wrap (v5+1)) y26.2.1 y26.2.2
   else
    some (v4,v6,v7)
def kY (dT:aD->aI->aB->Bool->Option (aH × aD × aI)) (n:Nat) (a0:aD) (a1:aI) (a2:aB) (a3:Bool):Option ((List aH) × aD × aI):=
 (iR dT a2 a3 n [] 0 a0 a1).bind fun y8=>
 gV (0<=(a0.bL.length:Int)/\(a0.bL.length:Int)<=(y8.2.1.bL.length:Int)) <|
 some (y8.1,({ y8.2.1 with bL:=(y8.2.1.bL.take (a0.bL.length)) }:aD),y8.2.2)
def fT (dA:aD->aI->aB->Bool->Option ((List aH) × aD × aI)) (a2:aB):Nat->Int->aD->aI->aH->Option (aD × aI × aH)
 | 0,_,_,_,_=>none
 | c59+1,v54,v55,v56,v57=>
   if decide (v54<((a2.aP.drop 2).length:Int)) then
    (bY (a2.aP.drop 2) v54).bind fun x64=>
    (dA v55 v56 x64 false).bind fun x70=>
    fT dA a2 c59 (i64.wrap (v54+1)) x70.2.1 x70.2.2 ({ v57 with rZ:=x70.1 }:aH)
   else
    some (v55,v56,v57)
def iU (dA:aD->aI->aB->Bool->Option ((List aH) × aD × aI)) (nQ:aD->aI->aB->aH->Option (aH × aD × aI)) (n:Nat) (a0:aD) (a1:aI) (a2:aB) (a3:Bool):Option (aH × aD × aI):=
 if a2.cF == 5 then
  (bY a2.aP 0).bind fun x5=>
  (fG n a0 a1 x5).bind fun x6=>
  (eE n a0 x6.2 (aZ.mk a2.cP 1 0) a2.fQ).bind fun x13=>
  some ((aH.mk ([108,101,116]:cR) x13.1 0 [x6.1] [] [] a2.fQ),x13.2.1,x13.2.2)
 else
  if a2.cF == 6 then
   (nB n a0 a1 a2 (aH.mk [] (-1:Int) 0 [] [] [] a2.fQ)).bind fun x16=>
   some (x16.1,x16.2.1,x16.2.2)
  else
   if a2.cF == 7 then
    (uH (i64.wrap (min a2.mE 1025))).bind fun x19=>
    (aW a0 a1 x19 136 a2.fQ).bind fun x20=>
    (eE n a0 x20 (aZ.mk a2.cP 4 (i64.wrap a2.mE)) a2.fQ).bind fun x23=>
    some ((aH.mk ([97,114,114]:cR) x23.1 0 [] [] [] a2.fQ),x23.2.1,x23.2.2)
   else
    if a2.cF == 8 then
     (oN n a0 a1 a2 (aH.mk [] (-1:Int) 0 [] [] [] a2.fQ)).bind fun x26=>
     some (x26.1,x26.2.1,x26.2.2)
    else
     if a2.cF == 9 then
      (oO n a0 a1 a2 (aH.mk [] (-1:Int) 0 [] [] [] a2.fQ)).bind fun x29=>
      some (x29.1,a0,x29.2)
     else
      if a2.cF == 10 then
       (iD n a0 a1 a2 (aH.mk [] (-1:Int) 0 [] [] [] a2.fQ) (-1:Int)).bind fun x32=>
       some (x32.1,x32.2.1,x32.2.2)
      else
       if a2.cF == 11 then
        (bY a2.aP 0).bind fun x35=>
        (fG n a0 a1 x35).bind fun x36=>
        (bY a2.aP 1).bind fun x43=>
        (dA a0 x36.2 x43 false).bind fun x44=>
        gV ((0:Int)<=2/\2<=(a2.aP.length:Int)) <|
        (fT dA a2 n 0 x44.2.1 x44.2.2 (aH.mk ([105,102]:cR) (-1:Int) 0 [x36.1] x44.1 [] a2.fQ)).bind fun y58=>
        some (y58.2.2,y58.1,y58.2.1)
       else
        if a2.cF == 12 then
         (nQ a0 a1 a2 (aH.mk [] (-1:Int) 0 [] [] [] a2.fQ)).bind fun x73=>
         some (x73.1,x73.2.1,x73.2.2)
        else
         if a2.cF == 13 then
          (oB n a0 a1 a2 (aH.mk [] (-1:Int) 0 [] [] [] a2.fQ) a3).bind fun x76=>
          some (x76.1,x76.2.1,x76.2.2)
         else
          some ((aH.mk [] (-1:Int) 0 [] [] [] a2.fQ),a0,a1)
def lU (dA:aD->aI->aB->Bool->Option ((List aH) × aD × aI)) (n:Nat) (a0:aD) (a1:aI) (a2:aB) (a3:aH):Option (aH × aD × aI):=
 (bY a2.aP 0).bind fun x4=>
 (fG n a0 a1 x4).bind fun x5=>
 (bY a2.aP 1).bind fun x6=>
 (fG n a0 x5.2 x6).bind fun x7=>
 (eE n a0 x7.2 (aZ.mk a2.cP 1 0) a2.fQ).bind fun x21=>
 (bY a2.aP 2).bind fun x23=>
 (dA x21.2.1 x21.2.2 x23 false).bind fun x24=>
 gV (0<=(min (a0.bL.length:Int) (x24.2.1.bL.length:Int))/\(min (a0.bL.length:Int) (x24.2.1.bL.length:Int))<=(x24.2.1.bL.length:Int)) <|
 some (({ a3 with lE:=([102,111,114]:cR),mD:=x21.1,aP:=[x5.1,x7.1],eH:=x24.1 }:aH),({ x24.2.1 with bL:=(x24.2.1.bL.take ((min (a0.bL.length:Int) (x24.2.1.bL.length:Int)).toNat)) }:aD),x24.2.2)
def eB:Nat->(aD->aI->aB->Bool->Option ((List aH) × aD × aI)) × (aD->aI->aB->Bool->Option (aH × aD × aI)) × (aD->aI->aB->aH->Option (aH × aD × aI))
 | 0=>(fun _ _ _ _=>none,fun _ _ _ _=>none,fun _ _ _ _=>none)
 | n+1=>(kY (eB n).2.1 n,iU (eB n).1 (eB n).2.2 n,lU (eB n).1 n)
def rU (n:Nat):aD->aI->aB->Bool->Option ((List aH) × aD × aI):=(eB n).1
def zK (n:Nat):aD->aI->aB->Bool->Option (aH × aD × aI):=(eB n).2.1
def Dn (n:Nat):aD->aI->aB->aH->Option (aH × aD × aI):=(eB n).2.2
def tF (a0:aB):Option Bool:=
 (if decide (0<(a0.aP.length:Int)) then
    (bY a0.aP (i64.wrap ((a0.aP.length:Int) - 1))).bind fun x4=>
    some (x4.cF == 13)
   else
    some false).bind fun y2=>
 some y2
def hY (n:Nat) (a3:aB):Nat->Int->aD->aI->Option (aD × aI)
 | 0,_,_,_=>none
 | c11+1,v7,v8,v9=>
   if decide (v7<((a3.aP.drop (max (i64.wrap ((a3.aP.length:Int) - 1)) 0).toNat).length:Int)) then
    (bY (a3.aP.drop (max (i64.wrap ((a3.aP.length:Int) - 1)) 0).toNat) v7).bind fun x16=>
    (bY v8.p_.bG v8.f_).bind fun x22=>
    (rU n v8 v9 x16 true).bind fun x25=>
    (bY x25.2.1.p_.bG v8.f_).bind fun x26=>
    ((bY (x25.2.1.p_.bG.set v8.f_.toNat { x26 with eH:=x25.1 }) v8.f_).bind fun x56=>
      if x56.cX == 0 then
       (aW ({ x25.2.1 with p_:=⟨(x25.2.1.p_.bG.set v8.f_.toNat { x26 with eH:=x25.1 })⟩ }:aD) x25.2.2 true 135 a3.fQ).bind fun x71=>
       some x71
      else
       (tF x16).bind fun x73=>
       (aW ({ x25.2.1 with p_:=⟨(x25.2.1.p_.bG.set v8.f_.toNat { x26 with eH:=x25.1 })⟩ }:aD) x25.2.2 x73 135 a3.fQ).bind fun x74=>
       some x74).bind fun y55=>
    hY n a3 c11 (i64.wrap (v7+1)) ({ x25.2.1 with p_:=⟨(x25.2.1.p_.bG.set v8.f_.toNat { x26 with eH:=x25.1 })⟩ }:aD) y55
   else
    some (v8,v9)
def jO (n:Nat) (a0:aD) (a1:aI) (a2:Int) (a3:aB):Option (aD × aI):=
 (kG n a0 a1 a2).bind fun x2=>
 gV (0<=(max (i64.wrap ((a3.aP.length:Int) - 1)) 0)/\(max (i64.wrap ((a3.aP.length:Int) - 1)) 0)<=(a3.aP.length:Int)) <|
 (hY n a3 n 0 x2.1 x2.2).bind fun y10=>
 some (y10.1,y10.2)
def tY (rec_:Int->List Int->Option (Bool × List Int)) (to:Int):List Int->List Int->Option (Bool × List Int)
 | [],seen=>some (false,seen)
 | k::ks,seen=>
   if k == to then some (true,seen)
   else
    (bY seen k).bind fun s=>
    if i64.wrap (s+1) == 1 then
     (rec_ k (seen.set k.toNat (i64.wrap (s+1)))).bind fun r=>
     if r.1=true then some (true,r.2) else tY rec_ to ks r.2
    else tY rec_ to ks (seen.set k.toNat (i64.wrap (s+1)))
def jD:Nat->aD->Int->Int->List Int->Option (Bool × List Int)
 | 0,_,_,_,_=>none
 | n+1,c,fr,to,seen=>(bY c.cJ fr).bind fun l=>gV (l.length<=1073741824) <| tY (fun k s=>jD n c k to s) to l seen
abbrev Look:=Int->aB->aD->aI->Option (aD × aI)
def rH (look:Look):List aB->Nat->aD->aI->Option (aD × aI)
 | [],_,c,w=>some (c,w)
 | f::l,i,c,w=>if w.e_ == 0 then (look i f c w).bind fun r=>rH look l (i+1) r.1 r.2 else rH look l (i+1) c w
def uI (nodes:List aB):List Look->aD->aI->Option (aD × aI)
 | [],c,w=>some (c,w)
 | look::ls,c,w=>(rH look nodes 0 c w).bind fun r=>uI nodes ls r.1 r.2
def vZ (n len:Nat) (c:aD):List aB->Nat->aI->Option aI
 | [],_,w=>some w
 | f::l,i,w=>if w.e_ == 0 then (jD n c i i (List.replicate len 0)).bind fun r=>(aW c w (!r.1) 134 f.fQ).bind fun w'=>vZ n len c l (i+1) w' else vZ n len c l (i+1) w
def uJ (n:Nat) (a0:cR):Option (aR × Int × Int):=
 (wK n a0).bind fun p=>
 if p.2.1 != 0 then some (⟨[]⟩,p.2.1,p.2.2)
 else
  (mZ n aD.Z ⟨0,0⟩ p.1).bind fun a=>
  gV (p.1.aP.length<=1073741824) <|
  (uI p.1.aP [fun i f c w=>jN n c w i f,fun i f c w=>jO n c w i f] a.1 a.2).bind fun b=>
  (vZ n p.1.aP.length b.1 p.1.aP 0 b.2).bind fun w=>
  if w.e_ != 0 then some (⟨[]⟩,w.e_,w.Aj) else some (b.1.p_,0,0)
structure T_interp_Args where
 tQ:(List Int)
 kD:(List (List Int))
def T_interp_Args.C (x:T_interp_Args):List V:=[.list .none (x.tQ.map (cI .u64)),.list .none (x.kD.map (cL (cI .u32)))]
@[go_sem] theorem T_interp_Args.C_eq (x:T_interp_Args):T_interp_Args.C x=[.list .none (x.tQ.map (cI .u64)),.list .none (x.kD.map (cL (cI .u32)))]:=rI rfl
structure bA where
 cF:Int
 A_:Int
 B_:Int
def bA.C (x:bA):List V:=[.lit (.int .i64 x.cF),.lit (.int .u32 x.A_),.lit (.int .u32 x.B_)]
@[go_sem] theorem bA.C_eq (x:bA):bA.C x=[.lit (.int .i64 x.cF),.lit (.int .u32 x.A_),.lit (.int .u32 x.B_)]:=rI rfl
structure aE where
 p_:aR
 dP:Int
 fP:Int
 e_:Int
 bT:(List bA)
structure bH where
 lE:Int
 N_:Int
 aP:(List bH)
mutual
def bH.C:bH->List V
 | ⟨a0,a1,a2⟩=>[.lit (.int .i64 a0),.lit (.int .u32 a1),.list .none (bH.CL a2)]
def bH.CL:List bH->List (List V)
 | []=>[]
 | x::l=>bH.C x::bH.CL l
end
theorem bH.CL_eq (l:List bH):bH.CL l=l.map bH.C:=by
 induction l with
 | nil=>rfl
 | cons x l ih=>rw [bH.CL,ih];rfl
@[go_sem] theorem bH.C_eq (x:bH):bH.C x=[.lit (.int .i64 x.lE),.lit (.int .u32 x.N_),.list .none (x.aP.map bH.C)]:=by
 cases x;simp only [bH.C,bH.CL_eq]
structure aK where
 f_:aY
 cC:List Int
 cK:List Int
 qH:Int
def Cj (W A:Pa) (x:aK):List V:=[.lit (.string (bs x.f_.jP)),.lit (.bool x.f_.iC),.lit (.int .i64 x.f_.cX),.lit (.int .i64 x.f_.bD),.list .none (x.f_.bB.map aZ.C),.list .none (x.f_.eH.map aH.C),.vec W 1 x.cC.length,.vec A 1 x.cK.length,.lit (.int .u64 x.qH)]
@[go_sem] theorem frC_eq {W A:Pa} {x:aK}:Cj W A x=[.lit (.string (bs x.f_.jP)),.lit (.bool x.f_.iC),.lit (.int .i64 x.f_.cX),.lit (.int .i64 x.f_.bD),.list .none (x.f_.bB.map aZ.C),.list .none (x.f_.eH.map aH.C),.vec W 1 x.cC.length,.vec A 1 x.cK.length,.lit (.int .u64 x.qH)]:=rI rfl
structure eF where
 Ip:Int
 cX:Int
 kD:(List (List Int))
 Cr:(List bA)
def eF.C (x:eF):List V:=[.lit (.int .i64 x.Ip),.lit (.int .u64 x.cX),.list .none (x.kD.map (cL (cI .u32))),.list .none (x.Cr.map bA.C)]
@[go_sem] theorem eF.C_eq (x:eF):eF.C x=[.lit (.int .i64 x.Ip),.lit (.int .u64 x.cX),.list .none (x.kD.map (cL (cI .u32))),.list .none (x.Cr.map bA.C)]:=rI rfl
def eF.Z:eF:=⟨0,0,[],[]⟩
def pC (a0:aY) (a1:T_interp_Args):Nat->Int->Int->Int->Option ((Int × Int) ⊕ Bool)
 | 0,_,_,_=>none
 | c10+1,v6,v7,v8=>
   if decide (v8<((a0.bB.take a0.bD.toNat).length:Int)) then
    ((bY (a0.bB.take a0.bD.toNat) v8).bind fun x16=>
      if x16.cF == 4 then
       (if decide ((a1.kD.length:Int)<=v7) then
          some true
         else
          (bY a1.kD v7).bind fun x25=>
          some ((x25.length:Int) != x16.iV)).bind fun y23=>
       if y23 then
        some (.inr false)
       else
        some (.inl (v6,(i64.wrap (v7+1))))
      else
       (if decide ((a1.tQ.length:Int)<=v6) then
          some true
         else
          if x16.cF != 3 then
           (bY a1.tQ v6).bind fun x37=>
           some (decide (4294967295<x37))
          else
           some false).bind fun y34=>
       if y34 then
        some (.inr false)
       else
        some (.inl ((i64.wrap (v6+1)),v7)):Option ((Int × Int) ⊕ Bool)).bind fun y15=>
    y15.elim (fun y15a=>
     pC a0 a1 c10 y15a.1 y15a.2 (i64.wrap (v8+1))) (fun y15a=>
     some (.inr y15a))
   else
    some (.inl (v6,v7))
def uG (n:Nat) (a0:aY) (a1:T_interp_Args):Option Bool:=
 gV (0<=a0.bD/\a0.bD<=(a0.bB.length:Int)) <|
 (pC a0 a1 n 0 0 0).bind fun y9=>
 y9.elim (fun y9a=>
  (if y9a.1 == (a1.tQ.length:Int) then
     some (y9a.2 == (a1.kD.length:Int))
    else
     some false).bind fun y54=>
  some y54) (fun y9a=>
  some y9a)
def bE (a0:aE):Option Bool:=
 (if a0.fP != 0 then
    some true
   else
    some (a0.e_ != 0)).bind fun y1=>
 some y1
def fJ (a0:aE):Option aE:=
 if decide (a0.dP<=0) then
  some ({ a0 with e_:=70 }:aE)
 else
  some ({ a0 with dP:=(i64.wrap (a0.dP - 1)) }:aE)
def dF (a0:aE) (a1:Int) (a2:Int) (a3:Int):Option aE:=
 gV (a0.bT.length+[(bA.mk a1 a2 a3)].length<=1073741824) <|
 some ({ a0 with bT:=(a0.bT++[(bA.mk a1 a2 a3)]) }:aE)
def uW (a0:cR) (a1:(List Int)):Option (Int × Bool):=
 if decide (a0=([115,101,108,101,99,116]:cR)) then
  (bY a1 0).bind fun x2=>
  if (vH .u64 x2 1) == 1 then
   (bY a1 1).bind fun x9=>
   some (x9,true)
  else
   (bY a1 2).bind fun x15=>
   some (x15,true)
 else
  if decide (a0=([108,111,110,103]:cR)) then
   (bY a1 0).bind fun x22=>
   some (x22,true)
  else
   if decide (a0=([108,111]:cR)) then
    (bY a1 0).bind fun x29=>
    some ((vH .u64 x29 4294967295),true)
   else
    if decide (a0=([104,105]:cR)) then
     (bY a1 0).bind fun x36=>
     some ((JT .u64 x36 32),true)
    else
     if decide (a0=([119,105,100,101]:cR)) then
      (bY a1 0).bind fun x43=>
      (bY a1 1).bind fun x44=>
      some ((u64.wrap (x43*x44)),true)
     else
      some (0,false)
def mA (a0:Int) (a1:Int):Option Int:=
 gV (0<=(vH .u64 (u64.wrap a1) 63)) <|
 gV (0<=(u64.wrap (64 - (vH .u64 (u64.wrap a1) 63)))) <|
 some (orK .u64 (NI .u64 a0 (vH .u64 (u64.wrap a1) 63)) (JT .u64 a0 (u64.wrap (64 - (vH .u64 (u64.wrap a1) 63)))))
def uV (a0:Bool):Option Int:=
 if a0 then
  some 1
 else
  some 0
def uE (a0:cR) (a1:Int) (a2:Int):Option Int:=
 if decide (a0=([124]:cR)) then
  some (orK .u64 a1 a2)
 else
  if decide (a0=([94]:cR)) then
   some (xorK .u64 a1 a2)
  else
   if decide (a0=([38]:cR)) then
    some (vH .u64 a1 a2)
   else
    if decide (a0=([43]:cR)) then
     some (u64.wrap (a1+a2))
    else
     if decide (a0=([45]:cR)) then
      some (u64.wrap (a1 - a2))
     else
      if decide (a0=([60,60]:cR)) then
       gV (0<=a2) <|
       some (NI .u64 a1 a2)
      else
       if decide (a0=([62,62]:cR)) then
        gV (0<=a2) <|
        some (JT .u64 a1 a2)
       else
        if decide (a0=([60,60,60]:cR)) then
         (mA a1 (i64.wrap a2)).bind fun x11=>
         some x11
        else
         if decide (a0=([61,61]:cR)) then
          (uV (a1 == a2)).bind fun x14=>
          some x14
         else
          if decide (a0=([60]:cR)) then
           (uV (decide (a1<a2))).bind fun x17=>
           some x17
          else
           if decide (a0=([110,111,116]:cR)) then
            some (comK .u64 a1)
           else
            some (u64.wrap (0 - a1))
def sM (a0:cR):Nat->Int->Option (Unit ⊕ Int)
 | 0,_=>none
 | c4+1,v2=>
   if decide (v2<15) then
    (bY dY v2).bind fun x9=>
    if decide (x9.MD=a0) then
     some (.inr x9.op_)
    else
     sM a0 c4 (i64.wrap (v2+1))
   else
    some (.inl ())
def uF (n:Nat) (a0:cR):Option Int:=
 (sM a0 n 0).bind fun y3=>
 y3.elim (fun y3a=>
  some 0) (fun y3a=>
  some y3a)
def DG (a0:Int):Option bH:=
 some (bH.mk 1 a0 [])
def Fo (a0:bH) (a1:(List Int)):Option Int:=
 if a0.lE == 1 then
  some a0.N_
 else
  if decide ((i64.wrap a0.N_)<(a1.length:Int)) then
   (bY a1 a0.N_).bind fun x4=>
   some x4
  else
   some 0
def vN (a0:Bool):Option Int:=
 if a0 then
  some 1
 else
  some 0
def EH (a0:Int) (a1:Int):Option Int:=
 if a0 == 3 then
  some (comK .u32 a1)
 else
  some (u32.wrap (0 - a1))
def mB (a0:Int) (a1:Int):Option Int:=
 gV (0<=(vH .u64 (u64.wrap a1) 31)) <|
 gV (0<=(u64.wrap (32 - (vH .u64 (u64.wrap a1) 31)))) <|
 some (orK .u32 (NI .u32 a0 (vH .u64 (u64.wrap a1) 31)) (JT .u32 a0 (u64.wrap (32 - (vH .u64 (u64.wrap a1) 31)))))
def yC (a0:Int) (a1:Int) (a2:Int):Option Int:=
 if a0 == 5 then
  some (orK .u32 a1 a2)
 else
  if a0 == 6 then
   some (xorK .u32 a1 a2)
  else
   if a0 == 7 then
    some (vH .u32 a1 a2)
   else
    if a0 == 10 then
     gV (0<=(vH .u32 a2 31)) <|
     some (NI .u32 a1 (vH .u32 a2 31))
    else
     if a0 == 11 then
      gV (0<=(vH .u32 a2 31)) <|
      some (JT .u32 a1 (vH .u32 a2 31))
     else
      (mB a1 (i64.wrap (vH .u32 a2 31))).bind fun x8=>
      some x8
def Db (a0:Int) (a1:Int) (a2:Int):Option (Int × Bool):=
 if a0 == 8 then
  (vN (a1 == a2)).bind fun x2=>
  some (x2,true)
 else
  if a0 == 9 then
   (vN (decide (a1<a2))).bind fun x5=>
   some (x5,true)
  else
   if a0 == 13 then
    some ((u32.wrap (a1+a2)),true)
   else
    if a0 == 14 then
     some ((u32.wrap (a1 - a2)),true)
    else
     if a0 == 15 then
      some ((u32.wrap (a1*a2)),true)
     else
      if a0 == 16 then
       if a2 == 0 then
        some (0,false)
       else
        gV (a2 ≠ 0) <|
        some ((u32.wrap (a1.tdiv a2)),true)
      else
       if a0 == 17 then
        if a2 == 0 then
         some (0,false)
        else
         gV (a2 ≠ 0) <|
         some ((a1.tmod a2),true)
       else
        (yC a0 a1 a2).bind fun x16=>
        some (x16,true)
def wG (sY:bH->(List Int)->Option (Int × Bool)) (n:Nat) (a0:bH) (a1:(List Int)):Option (Int × Bool):=
 if (a0.aP.length:Int) == 0 then
  (Fo a0 a1).bind fun x3=>
  some (x3,true)
 else
  (bY a0.aP 0).bind fun x5=>
  (sY x5 a1).bind fun x6=>
  (if !x6.2 then
     some true
    else
     some ((a0.aP.length:Int) == 1)).bind fun y13=>
  if y13 then
   (vN x6.2).bind fun x19=>
   (EH a0.lE x6.1).bind fun x20=>
   some ((u32.wrap (x19*x20)),x6.2)
  else
   (bY a0.aP 1).bind fun x23=>
   (sY x23 a1).bind fun x24=>
   if !x24.2 then
    some (0,false)
   else
    (Db a0.lE x6.1 x24.1).bind fun x32=>
    some (x32.1,x32.2)
def pN:Nat->bH->(List Int)->Option (Int × Bool)
 | 0=>fun _ _=>none
 | n+1=>wG (pN n) n
def lS (a2:(List Int)):Nat->Int->bH->Option bH
 | 0,_,_=>none
 | c50+1,v47,v48=>
   if decide (v47<(a2.length:Int)) then
    (bY a2 v47).bind fun x55=>
    (DG (u32.wrap x55)).bind fun x60=>
    gV (v48.aP.length+[x60].length<=1073741824) <|
    lS a2 c50 (i64.wrap (v47+1)) ({ v48 with aP:=(v48.aP++[x60]) }:bH)
   else
    some v48
def lR (a2:(List Int)):Nat->Int->bH->Option bH
 | 0,_,_=>none
 | c78+1,v75,v76=>
   if decide (v75<(a2.length:Int)) then
    (bY a2 v75).bind fun x83=>
    (DG (u32.wrap x83)).bind fun x88=>
    gV (v76.aP.length+[x88].length<=1073741824) <|
    lR a2 c78 (i64.wrap (v75+1)) ({ v76 with aP:=(v76.aP++[x88]) }:bH)
   else
    some v76
def lQ (a2:(List Int)):Nat->Int->bH->Option bH
 | 0,_,_=>none
 | c129+1,v126,v127=>
   if decide (v126<(a2.length:Int)) then
    (bY a2 v126).bind fun x134=>
    (DG (u32.wrap x134)).bind fun x139=>
    gV (v127.aP.length+[x139].length<=1073741824) <|
    lQ a2 c129 (i64.wrap (v126+1)) ({ v127 with aP:=(v127.aP++[x139]) }:bH)
   else
    some v127
def lP (a2:(List Int)):Nat->Int->bH->Option bH
 | 0,_,_=>none
 | c157+1,v154,v155=>
   if decide (v154<(a2.length:Int)) then
    (bY a2 v154).bind fun x162=>
    (DG (u32.wrap x162)).bind fun x167=>
    gV (v155.aP.length+[x167].length<=1073741824) <|
    lP a2 c157 (i64.wrap (v154+1)) ({ v155 with aP:=(v155.aP++[x167]) }:bH)
   else
    some v155
def eT (n:Nat) (a0:aE) (a1:aG) (a2:(List Int)):Option (Int × aE):=
 (if decide (0<(a1.aP.length:Int)) then
    (bY a1.aP 0).bind fun x4=>
    some (x4.cU == 3)
   else
    some false).bind fun y2=>
 if decide (1<(a2.length:Int)) then
  (bY a2 1).bind fun x14=>
  if y2 then
   (bY a2 0).bind fun x21=>
   (uE a1.lE x21 x14).bind fun x22=>
   some (x22,a0)
  else
   (if decide (a1.lE=([47]:cR)) then
      some true
     else
      some (decide (a1.lE=([37]:cR)))).bind fun y29=>
   if y29 then
    (bY a2 0).bind fun x35=>
    (dF a0 4 (u32.wrap x35) (u32.wrap x14)).bind fun x36=>
    (uF n a1.lE).bind fun x43=>
    (lS a2 n 0 (bH.mk x43 0 [])).bind fun y49=>
    (pN n y49 []).bind fun x68=>
    if !x68.2 then
     some ((u64.wrap x68.1),({ x36 with fP:=2 }:aE))
    else
     some ((u64.wrap x68.1),x36)
   else
    (uF n a1.lE).bind fun x71=>
    (lR a2 n 0 (bH.mk x71 0 [])).bind fun y77=>
    (pN n y77 []).bind fun x96=>
    if !x96.2 then
     some ((u64.wrap x96.1),({ a0 with fP:=2 }:aE))
    else
     some ((u64.wrap x96.1),a0)
 else
  if y2 then
   (bY a2 0).bind fun x100=>
   (uE a1.lE x100 0).bind fun x101=>
   some (x101,a0)
  else
   (if decide (a1.lE=([47]:cR)) then
      some true
     else
      some (decide (a1.lE=([37]:cR)))).bind fun y108=>
   if y108 then
    (bY a2 0).bind fun x114=>
    (dF a0 4 (u32.wrap x114) (u32.wrap 0)).bind fun x115=>
    (uF n a1.lE).bind fun x122=>
    (lQ a2 n 0 (bH.mk x122 0 [])).bind fun y128=>
    (pN n y128 []).bind fun x147=>
    if !x147.2 then
     some ((u64.wrap x147.1),({ x115 with fP:=2 }:aE))
    else
     some ((u64.wrap x147.1),x115)
   else
    (uF n a1.lE).bind fun x150=>
    (lP a2 n 0 (bH.mk x150 0 [])).bind fun y156=>
    (pN n y156 []).bind fun x175=>
    if !x175.2 then
     some ((u64.wrap x175.1),({ a0 with fP:=2 }:aE))
    else
     some ((u64.wrap x175.1),a0)
def dU (dG:aE->aK->(List (List Int))->aG->Option (Int × aE)) (a3:aG) (a1:aK) (a2:(List (List Int))):Nat->(List Int)->Int->aE->Option (((List Int) × aE) ⊕ (Int × aE))
 | 0,_,_,_=>none
 | c50+1,v46,v47,v48=>
   if decide (v47<(a3.aP.length:Int)) then
    (bY a3.aP v47).bind fun x55=>
    (dG v48 a1 a2 x55).bind fun x61=>
    (bE x61.2).bind fun x63=>
    if x63 then
     some (.inr (0,x61.2))
    else
     gV (v46.length+[x61.1].length<=1073741824) <|
     dU dG a3 a1 a2 c50 (v46++[x61.1]) (i64.wrap (v47+1)) x61.2
   else
    some (.inl (v46,v48))
def eC (mO:aE->aK->(List (List Int))->aG->Int->Option (Int × aE)) (dG:aE->aK->(List (List Int))->aG->Option (Int × aE)) (n:Nat) (a0:aE) (a1:aK) (a2:(List (List Int))) (a3:aG):Option (Int × aE):=
 if decide (a3.lE=([110,117,109]:cR)) then
  some ((u64.wrap a3.N_),a0)
 else
  if decide (a3.lE=([118,97,114]:cR)) then
   (bY a1.cC a3.mD).bind fun x4=>
   some (x4,a0)
  else
   if decide (a3.lE=([105,110,100,101,120]:cR)) then
    (bY a3.aP 0).bind fun x12=>
    (mO a0 a1 a2 x12 a3.mD).bind fun x13=>
    (bE x13.2).bind fun x20=>
    if x20 then
     some (0,x13.2)
    else
     (bY a1.cK a3.mD).bind fun x23=>
     (bY a2 x23).bind fun x24=>
     (bY x24 x13.1).bind fun x26=>
     some ((u64.wrap x26),x13.2)
   else
    (dU dG a3 a1 a2 n [] 0 a0).bind fun y49=>
    y49.elim (fun y49a=>
     (uW a3.lE y49a.1).bind fun x74=>
     if x74.2=true then
      some (x74.1,y49a.2)
     else
      (eT n y49a.2 a3 y49a.1).bind fun x77=>
      some (x77.1,x77.2)) (fun y49a=>
     some y49a)
def hM (dG:aE->aK->(List (List Int))->aG->Option (Int × aE)) (n:Nat) (a0:aE) (a1:aK) (a2:(List (List Int))) (a3:aG) (a4:Int):Option (Int × aE):=
 (dG a0 a1 a2 a3).bind fun x2=>
 (bE x2.2).bind fun x4=>
 if x4 then
  some (0,x2.2)
 else
  (bY a1.cK a4).bind fun x7=>
  (bY a2 x7).bind fun x8=>
  (dF x2.2 3 (u32.wrap x2.1) (u32.wrap (x8.length:Int))).bind fun x22=>
  if decide ((u32.wrap (x8.length:Int))<=(u32.wrap x2.1)) then
   some (0,({ x22 with fP:=1 }:aE))
  else
   some ((u32.wrap x2.1),x22)
def eW:Nat->(aE->aK->(List (List Int))->aG->Option (Int × aE)) × (aE->aK->(List (List Int))->aG->Int->Option (Int × aE))
 | 0=>(fun _ _ _ _=>none,fun _ _ _ _ _=>none)
 | n+1=>(eC (eW n).2 (eW n).1 n,hM (eW n).1 n)
def bP (n:Nat):aE->aK->(List (List Int))->aG->Option (Int × aE):=(eW n).1
def eZ (n:Nat):aE->aK->(List (List Int))->aG->Int->Option (Int × aE):=(eW n).2
def dN (a0:aK) (a1:(List (List Int))) (a2:Int) (a3:Int):Option (aK × (List (List Int))):=
 if decide (0<=a2) then
  (bY a0.cC a2).bind fun x2=>
  some (({ a0 with cC:=(a0.cC.set a2.toNat a3) }:aK),a1)
 else
  some (a0,a1)
def iS (n:Nat) (a0:aE) (a1:aK) (a2:(List (List Int))) (a3:aH):Option (aE × aK × (List (List Int))):=
 (bY a3.aP 0).bind fun x2=>
 (eZ n a0 a1 a2 x2 a3.mD).bind fun x3=>
 (bE x3.2).bind fun x10=>
 if x10 then
  some (x3.2,a1,a2)
 else
  (bY a3.aP 1).bind fun x13=>
  (bP n x3.2 a1 a2 x13).bind fun x14=>
  (bE x14.2).bind fun x21=>
  if !x21 then
   (bY a1.cK a3.mD).bind fun x24=>
   (bY a2 x24).bind fun x25=>
   (bY x25 x3.1).bind fun x27=>
   some (x14.2,a1,(a2.set x24.toNat (x25.set x3.1.toNat (u32.wrap x14.1))))
  else
   some (x14.2,a1,a2)
def eM (eK:aE->aK->(List (List Int))->aH->Option (aE × aK × (List (List Int)))) (a3:(List aH)):Nat->Int->aE->aK->(List (List Int))->Option ((aE × aK × (List (List Int))) ⊕ (aE × aK × (List (List Int))))
 | 0,_,_,_,_=>none
 | c7+1,v2,v3,v4,v5=>
   if decide (v2<(a3.length:Int)) then
    ((bY a3 v2).bind fun x15=>
      (bE v3).bind fun x21=>
      if x21 then
       some (.inr (v3,v4,v5))
      else
       (fJ v3).bind fun x24=>
       (bE x24).bind fun x26=>
       if !x26 then
        (eK x24 v4 v5 x15).bind fun x29=>
        some (.inl (x29.1,x29.2.1,x29.2.2))
       else
        some (.inl (x24,v4,v5)):Option ((aE × aK × (List (List Int))) ⊕ (aE × aK × (List (List Int))))).bind fun y14=>
    y14.elim (fun y14a=>
     eM eK a3 c7 (i64.wrap (v2+1)) y14a.1 y14a.2.1 y14a.2.2) (fun y14a=>
     some (.inr y14a))
   else
    some (.inl (v3,v4,v5))
def eD (eK:aE->aK->(List (List Int))->aH->Option (aE × aK × (List (List Int)))) (n:Nat) (a0:aE) (a1:aK) (a2:(List (List Int))) (a3:(List aH)):Option (aE × aK × (List (List Int))):=
 (eM eK a3 n 0 a0 a1 a2).bind fun y6=>
 y6.elim (fun y6a=>
  some (y6a.1,y6a.2.1,y6a.2.2)) (fun y6a=>
  some y6a)
def dO (nP:aE->aK->(List (List Int))->aH->Option (aE × aK × (List (List Int)))) (lG:aE->aK->(List (List Int))->aH->Option (aE × aK × (List (List Int)))) (lF:aE->aK->(List (List Int))->aH->Option (aE × aK × (List (List Int)))) (n:Nat) (a0:aE) (a1:aK) (a2:(List (List Int))) (a3:aH):Option (aE × aK × (List (List Int))):=
 if decide (a3.lE=([108,101,116]:cR)) then
  (bY a3.aP 0).bind fun x3=>
  (bP n a0 a1 a2 x3).bind fun x4=>
  (bE x4.2).bind fun x11=>
  if !x11 then
   (dN a1 a2 a3.mD x4.1).bind fun x14=>
   some (x4.2,x14.1,x14.2)
  else
   some (x4.2,a1,a2)
 else
  if decide (a3.lE=([118,97,114]:cR)) then
   (bY a3.aP 0).bind fun x17=>
   (bP n a0 a1 a2 x17).bind fun x18=>
   (bE x18.2).bind fun x25=>
   if !x25 then
    (dN a1 a2 a3.mD x18.1).bind fun x28=>
    some (x18.2,x28.1,x28.2)
   else
    some (x18.2,a1,a2)
  else
   if decide (a3.lE=([115,101,116]:cR)) then
    (bY a3.aP 0).bind fun x31=>
    (bP n a0 a1 a2 x31).bind fun x32=>
    (bE x32.2).bind fun x39=>
    if !x39 then
     (dN a1 a2 a3.mD x32.1).bind fun x42=>
     some (x32.2,x42.1,x42.2)
    else
     some (x32.2,a1,a2)
   else
    if decide (a3.lE=([97,114,114]:cR)) then
     (bY a1.cK a3.mD).bind fun x45=>
     (bY a2 x45).bind fun x46=>
     gV (0<x46.length) <|
     some (a0,a1,(a2.set x45.toNat (List.replicate x46.length 0)))
    else
     if decide (a3.lE=([112,117,116]:cR)) then
      (iS n a0 a1 a2 a3).bind fun x64=>
      some (x64.1,x64.2.1,x64.2.2)
     else
      if decide (a3.lE=([99,97,108,108]:cR)) then
       (nP a0 a1 a2 a3).bind fun x67=>
       some (x67.1,x67.2.1,x67.2.2)
      else
       if decide (a3.lE=([105,102]:cR)) then
        (lG a0 a1 a2 a3).bind fun x70=>
        some (x70.1,x70.2.1,x70.2.2)
       else
        if decide (a3.lE=([102,111,114]:cR)) then
         (lF a0 a1 a2 a3).bind fun x73=>
         some (x73.1,x73.2.1,x73.2.2)
        else
         if decide (a3.lE=([114,101,116,117,114,110]:cR)) then
          (bY a3.aP 0).bind fun x76=>
          (bP n a0 a1 a2 x76).bind fun x77=>
          some (x77.2,({ a1 with qH:=x77.1 }:aK),a2)
         else
          some (a0,a1,a2)
def Eh (p:Nat):List aZ->Nat->Nat->List Int->List (List Int)->Option (List Int × List (List Int))
 | [],_,_,rs,hs=>some (rs,hs)
 | v::l,i,b,rs,hs=>if v.cF=4 then gV (0<v.iV/\v.iV<=1073741824) (Eh p l (i+1) b (rs.set (p+i) ((b+hs.length:Nat):Int)) (hs++[List.replicate v.iV.toNat 0])) else Eh p l (i+1) b rs hs
def Cg (f:aY) (b:Nat):Option (aK × List (List Int)):=
 gV (0<=f.bD/\f.bD<=(f.bB.length:Int)/\f.bB.length<=1000000) <|
 (Eh f.bD.toNat (f.bB.drop f.bD.toNat) 0 b (List.replicate f.bB.length (-1)) []).bind fun r=>
 some ((⟨f,List.replicate f.bB.length 0,r.1,0⟩:aK),r.2)
def qQ (n:Nat) (fr:aK) (hs h2:List (List Int)):List aG->Nat->aE->aK->Option (aE ⊕ (aE × aK))
 | [],_,r,to=>some (.inr (r,to))
 | x::l,i,r,to=>
   if x.cU=4 then
    (bY fr.cK x.mD).bind fun k=>
    gV (0<=k/\k<(hs.length:Int)/\i<to.cK.length) <|
    qQ n fr hs h2 l (i+1) r { to with cK:=to.cK.set i k }
   else
    (bP n r fr hs x).bind fun v=>
    (bE v.2).bind fun e=>
    if e then some (.inl v.2) else
    (dN to (hs++h2) (i:Int) v.1).bind fun t=>
    qQ n fr hs h2 l (i+1) v.2 t.1
def dS (cG:aE->aK->(List (List Int))->(List aH)->Option (aE × aK × (List (List Int)))) (n:Nat) (a0:aE) (a1:aK) (a2:List (List Int)) (a3:aH):Option (aE × aK × List (List Int)):=
 gV (a3.aP.length<=1000000) <|
 (bY a0.p_.bG a3.pE).bind fun f=>
 (Cg f a2.length).bind fun o=>
 (qQ n a1 a2 o.2 a3.aP 0 a0 o.1).bind fun c=>c.elim (fun r=>some (r,a1,a2)) fun c=>
 (cG c.1 c.2 (a2++o.2) c.2.f_.eH).bind fun b=>
 (bE b.1).bind fun e=>
 if e then some (b.1,a1,b.2.2.take a2.length) else
 if a3.mD=-2 then some (b.1,({ a1 with qH:=b.2.1.qH }:aK),b.2.2.take a2.length) else
 (dN a1 (b.2.2.take a2.length) a3.mD b.2.1.qH).bind fun p=>some (b.1,p.1,p.2)
def dW (cG:aE->aK->(List (List Int))->(List aH)->Option (aE × aK × (List (List Int)))) (n:Nat) (a0:aE) (a1:aK) (a2:(List (List Int))) (a3:aH):Option (aE × aK × (List (List Int))):=
 (bY a3.aP 0).bind fun x2=>
 (bP n a0 a1 a2 x2).bind fun x3=>
 (bE x3.2).bind fun x10=>
 if x10 then
  some (x3.2,a1,a2)
 else
  if x3.1 != 0 then
   (dF x3.2 1 1 0).bind fun x14=>
   (cG x14 a1 a2 a3.eH).bind fun x16=>
   some (x16.1,x16.2.1,x16.2.2)
  else
   (dF x3.2 1 0 0).bind fun x18=>
   (cG x18 a1 a2 a3.rZ).bind fun x20=>
   some (x20.1,x20.2.1,x20.2.2)
def eY (cG:aE->aK->(List (List Int))->(List aH)->Option (aE × aK × (List (List Int)))) (x14:(Int × aE)) (a3:aH):Nat->Int->aE->aK->(List (List Int))->Option (aE × aK × (List (List Int)))
 | 0,_,_,_,_=>none
 | c32+1,v27,v28,v29,v30=>
   (if decide (v27<(u32.wrap x14.1)) then
      (bE v28).bind fun x40=>
      some (!x40)
     else
      some false).bind fun y38=>
   if y38 then
    (fJ v28).bind fun x46=>
    (dN v29 v30 a3.mD (u64.wrap v27)).bind fun x48=>
    (cG x46 x48.1 x48.2 a3.eH).bind fun x50=>
    eY cG x14 a3 c32 (u32.wrap (v27+1)) x50.1 x50.2.1 x50.2.2
   else
    some (v28,v29,v30)
def dV (cG:aE->aK->(List (List Int))->(List aH)->Option (aE × aK × (List (List Int)))) (n:Nat) (a0:aE) (a1:aK) (a2:(List (List Int))) (a3:aH):Option (aE × aK × (List (List Int))):=
 (bY a3.aP 0).bind fun x2=>
 (bP n a0 a1 a2 x2).bind fun x3=>
 (bE x3.2).bind fun x10=>
 if x10 then
  some (x3.2,a1,a2)
 else
  (bY a3.aP 1).bind fun x13=>
  (bP n x3.2 a1 a2 x13).bind fun x14=>
  (bE x14.2).bind fun x21=>
  if x21 then
   some (x14.2,a1,a2)
  else
   (dF x14.2 2 (u32.wrap x3.1) (u32.wrap x14.1)).bind fun x24=>
   (eY cG x14 a3 n (u32.wrap x3.1) x24 a1 a2).bind fun y31=>
   some (y31.1,y31.2.1,y31.2.2)
def bO:Nat->(aE->aK->(List (List Int))->(List aH)->Option (aE × aK × (List (List Int)))) × (aE->aK->(List (List Int))->aH->Option (aE × aK × (List (List Int)))) × (aE->aK->(List (List Int))->aH->Option (aE × aK × (List (List Int)))) × (aE->aK->(List (List Int))->aH->Option (aE × aK × (List (List Int)))) × (aE->aK->(List (List Int))->aH->Option (aE × aK × (List (List Int))))
 | 0=>(fun _ _ _ _=>none,fun _ _ _ _=>none,fun _ _ _ _=>none,fun _ _ _ _=>none,fun _ _ _ _=>none)
 | n+1=>(eD (bO n).2.1 n,dO (bO n).2.2.1 (bO n).2.2.2.1 (bO n).2.2.2.2 n,dS (bO n).1 n,dW (bO n).1 n,dV (bO n).1 n)
def cW (n:Nat):aE->aK->(List (List Int))->(List aH)->Option (aE × aK × (List (List Int))):=(bO n).1
def eX (n:Nat):aE->aK->(List (List Int))->aH->Option (aE × aK × (List (List Int))):=(bO n).2.1
def gR (n:Nat):aE->aK->(List (List Int))->aH->Option (aE × aK × (List (List Int))):=(bO n).2.2.1
def gB (n:Nat):aE->aK->(List (List Int))->aH->Option (aE × aK × (List (List Int))):=(bO n).2.2.2.1
def gA (n:Nat):aE->aK->(List (List Int))->aH->Option (aE × aK × (List (List Int))):=(bO n).2.2.2.2
def Kj (hs:List (List Int)):List aZ->Nat->List Int->List (List Int)->Option (List (List Int))
 | [],_,_,out=>some out
 | v::l,i,rs,out=>
   if v.cF=4 then
    (bY rs (i:Int)).bind fun k=>gV (0<=k) <| (bY hs k).bind fun a=>Kj hs l (i+1) rs (out++[a])
   else Kj hs l (i+1) rs out
def DL (r:aE) (fr:aK) (hs:List (List Int)):Option eF:=
 gV ((∀k ∈ fr.cK,k<(hs.length:Int))/\0<=fr.f_.bD/\fr.f_.bD<=(fr.f_.bB.length:Int)/\fr.f_.bB.length<=1000000) <|
 (Kj hs (fr.f_.bB.take fr.f_.bD.toNat) 0 fr.cK []).bind fun a=>some ⟨r.fP,if r.fP=0 then fr.qH else 0,a,r.bT⟩
def Ab (a:T_interp_Args):List aZ->Nat->Nat->Nat->aK->List (List Int)->Option (aK × List (List Int))
 | [],_,_,_,to,hs=>some (to,hs)
 | v::l,i,w,k,to,hs=>
   if v.cF=4 then
    (bY a.kD (k:Int)).bind fun x=>gV (0<x.length/\x.length<=1073741824/\i<to.cK.length) <|
    Ab a l (i+1) w (k+1) { to with cK:=to.cK.set i (hs.length:Int) } (hs++[x])
   else
    (bY a.tQ (w:Int)).bind fun x=>gV (i<to.cC.length) <|
    Ab a l (i+1) (w+1) k { to with cC:=to.cC.set i x } hs
def oK (n:Nat) (p:aR) (fn:Int) (a:T_interp_Args) (fuel:Int):Option (eF × Int):=
 if fn<0 ∨ (p.bG.length:Int)<=fn then some (eF.Z,11) else
 (bY p.bG fn).bind fun f=>
 (Cg f 0).bind fun o=>
 (uG n f a).bind fun ft=>
 if ft=false then some (eF.Z,10) else
 (Ab a (f.bB.take f.bD.toNat) 0 0 0 o.1 o.2).bind fun t=>
 (cW n ⟨p,fuel,0,0,[]⟩ t.1 t.2 f.eH).bind fun b=>
 if b.1.e_ ≠ 0 then some (eF.Z,b.1.e_) else
 (DL b.1 b.2.1 b.2.2).bind fun x=>some (x,0)
def oR (n:Nat):Option Bool:=
 (uJ n ([101,120,112,111,114,116,32,102,110,32,102,40,112,58,32,112,117,98,44,32,120,58,32,117,51,50,41,32,45,62,32,117,51,50,32,123,32,114,101,116,117,114,110,32,120,32,43,32,49,48,32,47,32,112,59,32,125]:cR)).bind fun x1=>
 (if x1.2.1 != 0 then
    some true
   else
    some ((x1.1.bG.length:Int) != 1)).bind fun y4=>
 if y4 then
  some false
 else
  (oK n x1.1 0 (T_interp_Args.mk [0,1] []) 9).bind fun x10=>
  (oK n x1.1 0 (T_interp_Args.mk [3,1] []) 9).bind fun x13=>
  (if x10.2 == 0 then
     if x13.2 == 0 then
      if x10.1.Ip == 2 then
       if x13.1.Ip == 0 then
        some (x13.1.cX == 4)
       else
        some false
      else
       some false
     else
      some false
    else
     some false).bind fun y16=>
  some y16
def pG (a0:cR) (a1:T_interp_Args) (a2:Int):Option Bool:=
 (if decide (3000<(a0.length:Int)) then
    some true
   else
    if decide (10<(a1.tQ.length:Int)) then
     some true
    else
     if decide (10<(a1.kD.length:Int)) then
      some true
     else
      some (decide (2000<a2))).bind fun y2=>
 some y2
def iX (x10:(List Int)) (x11:(List Int)):Nat->Int->Option (Unit ⊕ Bool)
 | 0,_=>none
 | c24+1,v22=>
   if decide (v22<(x10.length:Int)) then
    (bY x10 v22).bind fun x29=>
    (bY x11 v22).bind fun x30=>
    if x29 != x30 then
     some (.inr false)
    else
     iX x10 x11 c24 (i64.wrap (v22+1))
   else
    some (.inl ())
def iY (n:Nat) (a0:(List (List Int))) (a1:(List (List Int))):Nat->Int->Option (Unit ⊕ Bool)
 | 0,_=>none
 | c5+1,v3=>
   if decide (v3<(a0.length:Int)) then
    (bY a0 v3).bind fun x10=>
    (bY a1 v3).bind fun x11=>
    if (x10.length:Int) != (x11.length:Int) then
     some (.inr false)
    else
     (iX x10 x11 n 0).bind fun y23=>
     y23.elim (fun y23a=>
      iY n a0 a1 c5 (i64.wrap (v3+1))) (fun y23a=>
      some (.inr y23a))
   else
    some (.inl ())
def nX (n:Nat) (a0:(List (List Int))) (a1:(List (List Int))):Option Bool:=
 if (a0.length:Int) != (a1.length:Int) then
  some false
 else
  (iY n a0 a1 n 0).bind fun y4=>
  y4.elim (fun y4a=>
   some true) (fun y4a=>
   some y4a)
def iP (a0:(List bA)) (a1:(List bA)):Nat->Int->Option (Unit ⊕ Bool)
 | 0,_=>none
 | c5+1,v3=>
   if decide (v3<(a0.length:Int)) then
    (bY a0 v3).bind fun x10=>
    (bY a1 v3).bind fun x11=>
    if !((x10.cF == x11.cF) && ((x10.A_ == x11.A_) && (x10.B_ == x11.B_))) then
     some (.inr false)
    else
     iP a0 a1 c5 (i64.wrap (v3+1))
   else
    some (.inl ())
def mV (n:Nat) (a0:(List bA)) (a1:(List bA)):Option Bool:=
 if (a0.length:Int) != (a1.length:Int) then
  some false
 else
  (iP a0 a1 n 0).bind fun y4=>
  y4.elim (fun y4a=>
   some true) (fun y4a=>
   some y4a)
def gY (n:Nat) (a0:cR) (a1:Int) (a2:T_interp_Args) (a3:Int) (a4:Int):Option Bool:=
 (oR n).bind fun x2=>
 if !x2 then
  some false
 else
  ((pG a0 a2 a3).bind fun x6=>
    if x6 then
     some true
    else
     if decide (a4<a3) then
      some true
     else
      some (decide (2000<a4))).bind fun y5=>
  if y5 then
   some true
  else
   (uJ n a0).bind fun x14=>
   if x14.2.1 != 0 then
    some true
   else
    (oK n x14.1 a1 a2 a3).bind fun x18=>
    (oK n x14.1 a1 a2 a4).bind fun x21=>
    if x18.2 != 0 then
     (if x18.2 != 70 then
        some true
       else
        if x21.2 == 0 then
         some true
        else
         some (x21.2 == 70)).bind fun y25=>
     some y25
    else
     (if x21.2 == 0 then
        if x18.1.Ip == x21.1.Ip then
         if x18.1.cX == x21.1.cX then
          (nX n x18.1.kD x21.1.kD).bind fun x35=>
          if x35 then
           (mV n x18.1.Cr x21.1.Cr).bind fun x38=>
           some x38
          else
           some false
         else
          some false
        else
         some false
       else
        some false).bind fun y31=>
     some y31
end Go.Proofs.YtncembphlfbgoaaGreatDoor.Abs
