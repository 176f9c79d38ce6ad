import Derived.Test.YtnheknbibdgglaaGreatDoorTS3
namespace Go.Proofs.YtnheknbibdgglaaGreatDoor.Abs
open IntKind (i64 u32 u64 u8)
open Go.RowKit
set_option linter.all false
structure bF where
 fS:Int
 cB:Int
def bF.C (x:bF):List V:=[.lit (.int .u32 x.fS),.lit (.int .u32 x.cB)]
@[go_sem] theorem bF.C_eq (x:bF):bF.C x=[.lit (.int .u32 x.fS),.lit (.int .u32 x.cB)]:=rI rfl
structure bC where
 Ru:bW
 RR:Int
def bC.C (x:bC):List V:=[.lit (.string (bs x.Ru)),.lit (.int .i64 x.RR)]
@[go_sem] theorem bC.C_eq (x:bC):bC.C x=[.lit (.string (bs x.Ru)),.lit (.int .i64 x.RR)]:=rI rfl
structure bO where
 Jg:bW
 op_:Int
def bO.C (x:bO):List V:=[.lit (.string (bs x.Jg)),.lit (.int .i64 x.op_)]
@[go_sem] theorem bO.C_eq (x:bO):bO.C x=[.lit (.string (bs x.Jg)),.lit (.int .i64 x.op_)]:=rI rfl
structure dK where
 bK:Int
 fM:Int
 cZ:bW
 jO:Int
def dK.C (x:dK):List V:=[.lit (.int .i64 x.bK),.lit (.int .i64 x.fM),.lit (.string (bs x.cZ)),.lit (.int .u32 x.jO)]
@[go_sem] theorem dK.C_eq (x:dK):dK.C x=[.lit (.int .i64 x.bK),.lit (.int .i64 x.fM),.lit (.string (bs x.cZ)),.lit (.int .u32 x.jO)]:=rI rfl
structure aB where
 bK:Int
 fM:Int
 cZ:bW
 jO:Int
 aL:(List aB)
mutual
def aB.C:aB->List V
 | ⟨a0,a1,a2,a3,a4⟩=>[.lit (.int .i64 a0),.lit (.int .i64 a1),.lit (.string (bs a2)),.lit (.int .u32 a3),.list .none (aB.CL a4)]
def aB.CL:List aB->List (List V)
 | []=>[]
 | x::l=>aB.C x::aB.CL l
end
theorem aB.CL_eq (l:List aB):aB.CL l=l.map aB.C:=by
 induction l with
 | nil=>rfl
 | cons x l ih=>rw [aB.CL,ih];rfl
@[go_sem] theorem aB.C_eq (x:aB):aB.C x=[.lit (.int .i64 x.bK),.lit (.int .i64 x.fM),.lit (.string (bs x.cZ)),.lit (.int .u32 x.jO),.list .none (x.aL.map aB.C)]:=by
 cases x;simp only [aB.C,aB.CL_eq]
structure aC where
 l_:(List dK)
 gC:Int
 Aa:Int
 e_:Int
 Dr:Int
def aC.C (x:aC):List V:=[.list .none (x.l_.map dK.C),.lit (.int .i64 x.gC),.lit (.int .i64 x.Aa),.lit (.int .i64 x.e_),.lit (.int .i64 x.Dr)]
@[go_sem] theorem aC.C_eq (x:aC):aC.C x=[.list .none (x.l_.map dK.C),.lit (.int .i64 x.gC),.lit (.int .i64 x.Aa),.lit (.int .i64 x.e_),.lit (.int .i64 x.Dr)]:=rI rfl
structure aJ where
 gP:bW
 bK:Int
 qZ:Int
def aJ.C (x:aJ):List V:=[.lit (.string (bs x.gP)),.lit (.int .i64 x.bK),.lit (.int .i64 x.qZ)]
@[go_sem] theorem aJ.C_eq (x:aJ):aJ.C x=[.lit (.string (bs x.gP)),.lit (.int .i64 x.bK),.lit (.int .i64 x.qZ)]:=rI rfl
structure aD where
 dR:bW
 cJ:Int
 N_:Int
 eB:Int
 aL:(List aD)
 fM:Int
mutual
def aD.C:aD->List V
 | ⟨a0,a1,a2,a3,a4,a5⟩=>[.lit (.string (bs a0)),.lit (.int .i64 a1),.lit (.int .u32 a2),.lit (.int .i64 a3),.list .none (aD.CL a4),.lit (.int .i64 a5)]
def aD.CL:List aD->List (List V)
 | []=>[]
 | x::l=>aD.C x::aD.CL l
end
theorem aD.CL_eq (l:List aD):aD.CL l=l.map aD.C:=by
 induction l with
 | nil=>rfl
 | cons x l ih=>rw [aD.CL,ih];rfl
@[go_sem] theorem aD.C_eq (x:aD):aD.C x=[.lit (.string (bs x.dR)),.lit (.int .i64 x.cJ),.lit (.int .u32 x.N_),.lit (.int .i64 x.eB),.list .none (x.aL.map aD.C),.lit (.int .i64 x.fM)]:=by
 cases x;simp only [aD.C,aD.CL_eq]
structure aA where
 dR:bW
 eB:Int
 iH:Int
 aL:(List aD)
 bH:(List aA)
 eN:(List aA)
 fM:Int
mutual
def aA.C:aA->List V
 | ⟨a0,a1,a2,a3,a4,a5,a6⟩=>[.lit (.string (bs a0)),.lit (.int .i64 a1),.lit (.int .i64 a2),.list .none (a3.map aD.C),.list .none (aA.CL a4),.list .none (aA.CL a5),.lit (.int .i64 a6)]
def aA.CL:List aA->List (List V)
 | []=>[]
 | x::l=>aA.C x::aA.CL l
end
theorem aA.CL_eq (l:List aA):aA.CL l=l.map aA.C:=by
 induction l with
 | nil=>rfl
 | cons x l ih=>rw [aA.CL,ih];rfl
@[go_sem] theorem aA.C_eq (x:aA):aA.C x=[.lit (.string (bs x.dR)),.lit (.int .i64 x.eB),.lit (.int .i64 x.iH),.list .none (x.aL.map aD.C),.list .none (x.bH.map aA.C),.list .none (x.eN.map aA.C),.lit (.int .i64 x.fM)]:=by
 cases x;simp only [aA.C,aA.CL_eq]
structure aQ where
 gP:bW
 dU:Bool
 bN:Int
 aT:Int
 aR:(List aJ)
 bH:(List aA)
def aQ.C (x:aQ):List V:=[.lit (.string (bs x.gP)),.lit (.bool x.dU),.lit (.int .i64 x.bN),.lit (.int .i64 x.aT),.list .none (x.aR.map aJ.C),.list .none (x.bH.map aA.C)]
@[go_sem] theorem aQ.C_eq (x:aQ):aQ.C x=[.lit (.string (bs x.gP)),.lit (.bool x.dU),.lit (.int .i64 x.bN),.lit (.int .i64 x.aT),.list .none (x.aR.map aJ.C),.list .none (x.bH.map aA.C)]:=rI rfl
structure aW where
 aV:(List aQ)
def aW.C (x:aW):List V:=[.list .none (x.aV.map aQ.C)]
@[go_sem] theorem aW.C_eq (x:aW):aW.C x=[.list .none (x.aV.map aQ.C)]:=rI rfl
def aW.Z:aW:=⟨[]⟩
structure aG where
 e_:Int
 Dr:Int
structure aE where
 p_:aW
 f_:Int
 bB:List Int
 bX:List (List Int)
 gC:Int
def aE.Z:aE:=⟨aW.Z,-1,[],[],0⟩
def qU (F fp S C:V) (x:aE) (y:aG):List V:=[F,fp,S,C,.lit (.int .i64 x.gC),.lit (.int .i64 y.e_),.lit (.int .i64 y.Dr)]
@[go_sem] theorem ckC_eq {F fp S C:V} {x:aE} {y:aG}:qU F fp S C x y=[F,fp,S,C,.lit (.int .i64 x.gC),.lit (.int .i64 y.e_),.lit (.int .i64 y.Dr)]:=rI rfl
def fO:List bW:=[[45,62],[46,46],[61,61],[60,60,60],[60,60],[62,62],[60],[40],[41],[123],[125],[91],[93],[44],[59],[58],[61],[43],[45],[42],[47],[37],[38],[124],[94],[126]]
@[go_sem] theorem TZ:(cA cS fO).length=26:=by kernel_rfl
@[go_sem] theorem Tf:(cA cS fO).take 26=(cA cS fO):=by kernel_rfl
def cC:List bW:=[[102,110],[101,120,112,111,114,116],[108,101,116],[118,97,114],[97,114,114],[105,102],[101,108,115,101],[102,111,114],[105,110],[114,101,116,117,114,110],[112,117,98],[117,51,50],[117,54,52]]
@[go_sem] theorem RF:(cA cS cC).length=13:=by kernel_rfl
@[go_sem] theorem PD:Dp 1 13 (cA cS cC)=cC.map cS:=rI rfl
def cW:List (List bW):=[[[124],[],[]],[[94],[],[]],[[38],[],[]],[[61,61],[60],[]],[[60,60],[62,62],[60,60,60]],[[43],[45],[]],[[42],[47],[37]]]
def cK:List bC:=[(bC.mk [115,101,108,101,99,116] 3),(bC.mk [108,111,110,103] 1),(bC.mk [108,111] 1),(bC.mk [104,105] 1),(bC.mk [119,105,100,101] 2)]
@[go_sem] theorem RH:(cA bC.C cK).length=10:=by kernel_rfl
@[go_sem] theorem Qw:(cA bC.C cK).take 10=(cA bC.C cK):=by kernel_rfl
@[go_sem] theorem OT:(cA bC.C cK).map V.shared=(cA bC.C cK):=rI rfl
def eF:List bO:=[(bO.mk [124] 5),(bO.mk [94] 6),(bO.mk [38] 7),(bO.mk [61,61] 8),(bO.mk [60] 9),(bO.mk [60,60] 10),(bO.mk [62,62] 11),(bO.mk [60,60,60] 12),(bO.mk [43] 13),(bO.mk [45] 14),(bO.mk [42] 15),(bO.mk [47] 16),(bO.mk [37] 17),(bO.mk [110,111,116] 3),(bO.mk [110,101,103] 4)]
@[go_sem] theorem Tg:(cA bO.C eF).length=30:=by kernel_rfl
@[go_sem] theorem RG:(cA bO.C eF).take 30=(cA bO.C eF):=by kernel_rfl
@[go_sem] theorem PE:(cA bO.C eF).map V.shared=(cA bO.C eF):=rI rfl
def BB (a0:Int):Option Bool:=
 (if a0 == 32 then
    some true
   else
    if a0 == 9 then
     some true
    else
     if a0 == 13 then
      some true
     else
      some (a0 == 10)).bind λy1=>
 some y1
def fR (a0:bW) (a1:bW):Option Bool:=
 (if decide ((a1.length:Int)<=(a0.length:Int)) then
    fC (0<=(a1.length:Int)/\(a1.length:Int)<=(a0.length:Int)) <|
    some (decide ((a0.take (a1.length:Int).toNat)=a1))
   else
    some false).bind λy1=>
 some y1
def nR (a0:bW) (a1:bW):Option Bool:=
 (fR a0 a1).bind λx1=>
 some x1
def oK (a0:bW) (a1:Int):Option Int:=some (Lib.indexByte a0 a1.toNat.toUInt8)
def lW (a0:bW) (a1:Int):Option Int:=
 (oK a0 a1).bind λx1=>
 some x1
def nQ (a0:bW) (a1:Int):Option Int:=
 (lW a0 a1).bind λx1=>
 some x1
@[go_sem] def AE (a0:bW):Nat->Int->Option (Int ⊕ Int)
 | 0,_=>none
 | c4+1,v2=>
   if decide (v2<(a0.length:Int)) then
    (aZ a0 v2).bind λx9=>
    (BB (x9.toNat:Int)).bind λx10=>
    if x10 then
     AE a0 c4 (i64.wrap (v2+1))
    else
     fC (0<=v2/\v2<=(a0.length:Int)) <|
     (nR (a0.drop v2.toNat) ([47,47]:bW)).bind λx17=>
     if x17 then
      fC (0<=v2/\v2<=(a0.length:Int)) <|
      (nQ (a0.drop v2.toNat) 10).bind λx22=>
      if decide (x22<0) then
       some (.inr (a0.length:Int))
      else
       AE a0 c4 (i64.wrap (v2+x22))
     else
      some (.inr v2)
   else
    some (.inl v2)
def Cc (n:Nat) (a0:bW) (a1:Int):Option Int:=
 (AE a0 n a1).bind λy3=>
 y3.elim (λy3a=>
  some y3a) (λy3a=>
  some y3a)
def wL (a0:Int):Option Bool:=
 (if decide (97<=a0) then
    if decide (a0<=122) then
     some true
    else
     some (a0 == 95)
   else
    some (a0 == 95)).bind λy1=>
 some y1
def Ac (a0:Int):Option Bool:=
 (if decide (48<=a0) then
    some (decide (a0<=57))
   else
    some false).bind λy1=>
 some y1
@[go_sem] def Dl (a0:bW):Nat->Int->Option (Unit ⊕ bW)
 | 0,_=>none
 | c4+1,v2=>
   if decide (v2<(a0.length:Int)) then
    ((aZ a0 v2).bind λx10=>
      (wL (x10.toNat:Int)).bind λx11=>
      if !x11 then
       (Ac (x10.toNat:Int)).bind λx18=>
       some (!x18)
      else
       some false).bind λy9=>
    if y9 then
     fC (0<=v2/\v2<=(a0.length:Int)) <|
     some (.inr (a0.take v2.toNat))
    else
     Dl a0 c4 (i64.wrap (v2+1))
   else
    some (.inl ())
def ED (n:Nat) (a0:bW):Option bW:=
 (Dl a0 n 0).bind λy3=>
 y3.elim (λy3a=>
  some a0) (λy3a=>
  some y3a)
def jN (a0:bW) (a1:bW):Option (bW × Bool):=
 (fR a0 a1).bind λx1=>
 if !x1 then
  some (a0,false)
 else
  fC (0<=(a1.length:Int)/\(a1.length:Int)<=(a0.length:Int)) <|
  some ((a0.drop (a1.length:Int).toNat),true)
def qG (a0:bW) (a1:bW):Option (bW × Bool):=
 (jN a0 a1).bind λx1=>
 some (x1.1,x1.2)
@[go_sem] def Bs (x1:(bW × Bool)):Nat->Int->Int->Option (Int ⊕ (Int × Bool))
 | 0,_,_=>none
 | c8+1,v5,v6=>
   if decide (v6<(x1.1.length:Int)) then
    fC ((0:Int)<=16/\16<=(([48,49,50,51,52,53,54,55,56,57,97,98,99,100,101,102]:bW).length:Int)) <|
    (aZ x1.1 v6).bind λx13=>
    (nQ (([48,49,50,51,52,53,54,55,56,57,97,98,99,100,101,102]:bW).take (16:Int).toNat) (x13.toNat:Int)).bind λx14=>
    (if decide (x14<0) then
       some true
      else
       some (decide (4294967295<(i64.wrap ((i64.wrap (v5*16))+x14))))).bind λy22=>
    if y22 then
     some (.inr (0,false))
    else
     Bs x1 c8 (i64.wrap ((i64.wrap (v5*16))+x14)) (i64.wrap (v6+1))
   else
    some (.inl v5)
@[go_sem] def Br (a0:bW):Nat->Int->Int->Option (Int ⊕ (Int × Bool))
 | 0,_,_=>none
 | c32+1,v29,v30=>
   if decide (v30<(a0.length:Int)) then
    fC ((0:Int)<=10/\10<=(([48,49,50,51,52,53,54,55,56,57,97,98,99,100,101,102]:bW).length:Int)) <|
    (aZ a0 v30).bind λx37=>
    (nQ (([48,49,50,51,52,53,54,55,56,57,97,98,99,100,101,102]:bW).take (10:Int).toNat) (x37.toNat:Int)).bind λx38=>
    (if decide (x38<0) then
       some true
      else
       some (decide (4294967295<(i64.wrap ((i64.wrap (v29*10))+x38))))).bind λy46=>
    if y46 then
     some (.inr (0,false))
    else
     Br a0 c32 (i64.wrap ((i64.wrap (v29*10))+x38)) (i64.wrap (v30+1))
   else
    some (.inl v29)
def BA (n:Nat) (a0:bW):Option (Int × Bool):=
 (qG a0 ([48,120]:bW)).bind λx1=>
 if x1.2=true then
  (Bs x1 n 0 0).bind λy7=>
  y7.elim (λy7a=>
   some ((u32.wrap y7a),(decide (x1.1 ≠ ([]:bW))))) (λy7a=>
   some y7a)
 else
  (Br a0 n 0 0).bind λy31=>
  y31.elim (λy31a=>
   some ((u32.wrap y31a),(decide (a0 ≠ ([]:bW))))) (λy31a=>
   some y31a)
@[go_sem] def Dm (a0:bW):Nat->Int->Option (Unit ⊕ bW)
 | 0,_=>none
 | c4+1,v2=>
   if decide (v2<26) then
    (aZ fO v2).bind λx9=>
    (nR a0 x9).bind λx17=>
    if x17 then
     some (.inr x9)
    else
     Dm a0 c4 (i64.wrap (v2+1))
   else
    some (.inl ())
def EE (n:Nat) (a0:bW):Option bW:=
 (Dm a0 n 0).bind λy3=>
 y3.elim (λy3a=>
  some ([]:bW)) (λy3a=>
  some y3a)
def EF (n:Nat) (a0:bW) (a1:Int):Option (dK × Int):=
 fC (0<=a1/\a1<=(a0.length:Int)) <|
 (ED n (a0.drop a1.toNat)).bind λx2=>
 (aZ a0 a1).bind λx7=>
 (wL (x7.toNat:Int)).bind λx8=>
 if x8 then
  if decide (32<(x2.length:Int)) then
   some ((dK.mk 0 0 [] 0),102)
  else
   some ((dK.mk 1 a1 x2 0),0)
 else
  (Ac (x7.toNat:Int)).bind λx16=>
  if x16 then
   (BA n x2).bind λx19=>
   if !x19.2 then
    some ((dK.mk 0 0 [] 0),101)
   else
    some ((dK.mk 2 a1 x2 x19.1),0)
  else
   fC (0<=a1/\a1<=(a0.length:Int)) <|
   (EE n (a0.drop a1.toNat)).bind λx22=>
   if decide (x22=([]:bW)) then
    some ((dK.mk 0 0 [] 0),100)
   else
    some ((dK.mk 3 a1 x22 0),0)
@[go_sem] def Am (n:Nat) (a0:bW):Nat->(List dK)->Int->Option ((List dK) ⊕ ((List dK) × Int × Int))
 | 0,_,_=>none
 | c8+1,v5,v6=>
   if decide (v6<(a0.length:Int)) then
    (EF n a0 v6).bind λx13=>
    if x13.2 != 0 then
     some (.inr ([],x13.2,v6))
    else
     fC (v5.length+[x13.1].length<=1073741824) <|
     (Cc n a0 (i64.wrap (v6+(x13.1.cZ.length:Int)))).bind λx20=>
     Am n a0 c8 (v5++[x13.1]) x20
   else
    some (.inl v5)
def Ab (n:Nat) (a0:bW):Option ((List dK) × Int × Int):=
 if decide (65536<(a0.length:Int)) then
  some ([],161,0)
 else
  (Cc n a0 0).bind λx2=>
  (Am n a0 n [] x2).bind λy7=>
  y7.elim (λy7a=>
   fC (y7a.length+[(dK.mk 4 (a0.length:Int) [] 0)].length<=1073741824) <|
   some ((y7a++[(dK.mk 4 (a0.length:Int) [] 0)]),0,0)) (λy7a=>
   some y7a)
def dO (a0:aC):Option dK:=
 (aZ a0.l_ a0.gC).bind λx2=>
 some x2
def iO (a0:aC) (a1:Int):Option aC:=
 if a0.e_ == 0 then
  (dO a0).bind λx2=>
  some ({ a0 with e_:=a1,Dr:=x2.fM }:aC)
 else
  some a0
def fA (a0:aC) (a1:Int):Option (aB × aC):=
 if decide (16384<(i64.wrap (a0.Aa+1))) then
  (iO ({ a0 with Aa:=(i64.wrap (a0.Aa+1)) }:aC) 136).bind λx3=>
  (dO x3).bind λx5=>
  some ((aB.mk a1 x5.fM [] 0 []),x3)
 else
  (dO ({ a0 with Aa:=(i64.wrap (a0.Aa+1)) }:aC)).bind λx7=>
  some ((aB.mk a1 x7.fM [] 0 []),({ a0 with Aa:=(i64.wrap (a0.Aa+1)) }:aC))
@[go_sem] def lB (a0:(List bW)) (a1:bW):Nat->Int->Option (Unit ⊕ Int)
 | 0,_=>none
 | c4+1,v2=>
   if decide (v2<(a0.length:Int)) then
    (aZ a0 v2).bind λx9=>
    if decide (a1=x9) then
     some (.inr v2)
    else
     lB a0 a1 c4 (i64.wrap (v2+1))
   else
    some (.inl ())
def kB (n:Nat) (a0:(List bW)) (a1:bW):Option Int:=
 (lB a0 a1 n 0).bind λy3=>
 y3.elim (λy3a=>
  some (-1:Int)) (λy3a=>
  some y3a)
def jE (n:Nat) (a0:(List bW)) (a1:bW):Option Bool:=
 (kB n a0 a1).bind λx1=>
 some (decide (0<=x1))
def wJ (n:Nat) (a0:bW):Option Bool:=
 (jE n cC a0).bind λx1=>
 some x1
def jP (n:Nat) (a0:aC) (a1:bW):Option Bool:=
 (dO a0).bind λx1=>
 (if a0.e_ == 0 then
    if decide (x1.cZ=a1) then
     if x1.bK == 3 then
      some true
     else
      if x1.bK == 1 then
       (wJ n a1).bind λx9=>
       some x9
      else
       some false
    else
     some false
   else
    some false).bind λy4=>
 some y4
def bM (n:Nat) (a0:aC) (a1:bW):Option (Bool × aC):=
 (jP n a0 a1).bind λx1=>
 if !x1 then
  some (false,a0)
 else
  some (true,({ a0 with gC:=(i64.wrap (a0.gC+1)) }:aC))
def bJ (n:Nat) (a0:aC) (a1:bW):Option aC:=
 (bM n a0 a1).bind λx1=>
 if !x1.1 then
  (iO x1.2 110).bind λx4=>
  some x4
 else
  some x1.2
def eH (n:Nat) (a0:aC):Option (bW × aC):=
 (dO a0).bind λx1=>
 (if a0.e_ != 0 then
    some true
   else
    if x1.bK != 1 then
     some true
    else
     (wJ n x1.cZ).bind λx7=>
     some x7).bind λy4=>
 if y4 then
  (iO a0 110).bind λx13=>
  some (([]:bW),x13)
 else
  some (x1.cZ,({ a0 with gC:=(i64.wrap (a0.gC+1)) }:aC))
def kN (a0:aC):Option (Int × aC):=
 (dO a0).bind λx1=>
 (if a0.e_ != 0 then
    some true
   else
    some (x1.bK != 2)).bind λy4=>
 if y4 then
  (iO a0 110).bind λx10=>
  some (0,x10)
 else
  some (x1.jO,({ a0 with gC:=(i64.wrap (a0.gC+1)) }:aC))
def mD (n:Nat) (a0:aC):Option (Int × aC):=
 (bJ n a0 ([91]:bW)).bind λx1=>
 (kN x1).bind λx3=>
 (bJ n x3.2 ([93]:bW)).bind λx5=>
 some (x3.1,x5)
def kV:List bW:=[([112,117,98]:bW),([117,51,50]:bW),([117,54,52]:bW)]
@[go_sem] def qI (n:Nat):Nat->Int->aC->aB->aB->Option ((aC × aB × aB) ⊕ (aB × aC))
 | 0,_,_,_,_=>none
 | c15+1,v10,v11,v12,v13=>
   if decide (v10<3) then
    (aZ kV v10).bind λx20=>
    (bM n v11 x20).bind λx29=>
    if x29.1=true then
     some (.inr (({ v13 with jO:=(u32.wrap (i64.wrap (1+v10))) }:aB),x29.2))
    else
     qI n c15 (i64.wrap (v10+1)) x29.2 v12 v13
   else
    some (.inl (v11,v12,v13))
def nE (n:Nat) (a0:aC):Option (aB × aC):=
 (fA a0 3).bind λx2=>
 (eH n x2.2).bind λx5=>
 (bJ n x5.2 ([58]:bW)).bind λx7=>
 (qI n n 0 x7 (aB.mk 0 0 [] 0 []) ({ x2.1 with cZ:=x5.1 }:aB)).bind λy14=>
 y14.elim (λy14a=>
  (fA y14a.1 14).bind λx37=>
  (mD n x37.2).bind λx40=>
  some (({ y14a.2.2 with jO:=4,aL:=[({ x37.1 with jO:=x40.1 }:aB)] }:aB),x40.2)) (λy14a=>
  some y14a)
@[go_sem] def mH (n:Nat):Nat->(List aB)->aC->Option ((List aB) × aC)
 | 0,_,_=>none
 | c11+1,v8,v9=>
   if v9.e_ == 0 then
    (nE n v9).bind λx16=>
    fC (v8.length+[x16.1].length<=1073741824) <|
    (bM n x16.2 ([44]:bW)).bind λx21=>
    if !x21.1 then
     some ((v8++[x16.1]),x21.2)
    else
     mH n c11 (v8++[x16.1]) x21.2
   else
    some (v8,v9)
def gA (n:Nat) (a0:aC):Option ((List aB) × aC):=
 (bJ n a0 ([40]:bW)).bind λx1=>
 (bM n x1 ([41]:bW)).bind λx3=>
 if x3.1=true then
  some ([],x3.2)
 else
  ((mH n n [] x3.2).bind λy10=>
    some (y10.1,y10.2)).bind λy6=>
  (bJ n y6.2 ([41]:bW)).bind λx27=>
  some (y6.1,x27)
def mF (a0:aC) (a1:Int):Option aC:=
 if decide (64<a1) then
  (iO a0 111).bind λx2=>
  some x2
 else
  some a0
@[go_sem] def lT (n:Nat) (x1:(List bW)) (a0:aC):Nat->Int->Option (Unit ⊕ bW)
 | 0,_=>none
 | c15+1,v13=>
   if decide (v13<3) then
    (aZ x1 v13).bind λx20=>
    (if decide (x20 ≠ ([]:bW)) then
       (jP n a0 x20).bind λx31=>
       some x31
      else
       some false).bind λy29=>
    if y29 then
     some (.inr x20)
    else
     lT n x1 a0 c15 (i64.wrap (v13+1))
   else
    some (.inl ())
def mE (n:Nat) (a0:aC) (a1:Int):Option bW:=
 (aZ cW a1).bind λx1=>
 (lT n x1 a0 n 0).bind λy14=>
 y14.elim (λy14a=>
  some ([]:bW)) (λy14a=>
  some y14a)
@[go_sem] def fY (fE:aC->Int->Option (aB × aC)) (n:Nat) (a1:Int):Nat->(List aB)->aC->Option ((List aB) × aC)
 | 0,_,_=>none
 | c11+1,v8,v9=>
   if v9.e_ == 0 then
    (fE v9 a1).bind λx16=>
    fC (v8.length+[x16.1].length<=1073741824) <|
    (bM n x16.2 ([44]:bW)).bind λx21=>
    if !x21.1 then
     some ((v8++[x16.1]),x21.2)
    else
     fY fE n a1 c11 (v8++[x16.1]) x21.2
   else
    some (v8,v9)
def iX (fE:aC->Int->Option (aB × aC)) (n:Nat) (a0:aC) (a1:Int):Option ((List aB) × aC):=
 (bJ n a0 ([40]:bW)).bind λx1=>
 (bM n x1 ([41]:bW)).bind λx3=>
 if x3.1=true then
  some ([],x3.2)
 else
  ((fY fE n a1 n [] x3.2).bind λy10=>
    some (y10.1,y10.2)).bind λy6=>
  (bJ n y6.2 ([41]:bW)).bind λx27=>
  some (y6.1,x27)
def pC (cR:aC->Int->Int->Option (aB × aC)) (n:Nat) (a0:aC) (a1:Int):Option (aB × aC):=
 (cR a0 0 a1).bind λx2=>
 some (x2.1,x2.2)
@[go_sem] def qK (cR:aC->Int->Int->Option (aB × aC)) (n:Nat) (a1:Int) (a2:Int):Nat->bW->aC->aB->Option (aC × aB)
 | 0,_,_,_=>none
 | c15+1,v11,v12,v13=>
   if decide (v11 ≠ ([]:bW)) then
    (fA v12 19).bind λx20=>
    (bJ n x20.2 v11).bind λx23=>
    (cR x23 (i64.wrap (a1+1)) a2).bind λx25=>
    if a1 == 3 then
     some (x25.2,({ x20.1 with cZ:=v11,aL:=[v13,x25.1] }:aB))
    else
     (mE n x25.2 a1).bind λx28=>
     qK cR n a1 a2 c15 x28 x25.2 ({ x20.1 with cZ:=v11,aL:=[v13,x25.1] }:aB)
   else
    some (v12,v13)
def oC (cO:aC->Int->Option (aB × aC)) (cR:aC->Int->Int->Option (aB × aC)) (n:Nat) (a0:aC) (a1:Int) (a2:Int):Option (aB × aC):=
 if a1 == 7 then
  (cO a0 a2).bind λx3=>
  some (x3.1,x3.2)
 else
  (cR a0 (i64.wrap (a1+1)) a2).bind λx5=>
  (mE n x5.2 a1).bind λx8=>
  (qK cR n a1 a2 n x8 x5.2 x5.1).bind λy14=>
  some (y14.2,y14.1)
def iS:List bW:=[([126]:bW),([45]:bW)]
@[go_sem] def oU (cO:aC->Int->Option (aB × aC)) (n:Nat) (a1:Int):Nat->Int->aC->aB->aB->Option ((aC × aB × aB) ⊕ (aB × aC))
 | 0,_,_,_,_=>none
 | c23+1,v18,v19,v20,v21=>
   if decide (v18<2) then
    (aZ iS v18).bind λx28=>
    (bM n v19 x28).bind λx37=>
    if x37.1=true then
     (cO x37.2 (i64.wrap (a1+1))).bind λx40=>
     some (.inr (({ v20 with bK:=18,cZ:=x28,aL:=[x40.1] }:aB),x40.2))
    else
     oU cO n a1 c23 (i64.wrap (v18+1)) x37.2 v20 v21
   else
    some (.inl (v19,v20,v21))
def mP (dX:aC->Int->Option (aB × aC)) (cO:aC->Int->Option (aB × aC)) (iE:aC->Int->Option ((List aB) × aC)) (n:Nat) (a0:aC) (a1:Int):Option (aB × aC):=
 (mF a0 a1).bind λx4=>
 (bM n x4 ([40]:bW)).bind λx6=>
 if x6.1=true then
  (dX x6.2 (i64.wrap (a1+1))).bind λx9=>
  (bJ n x9.2 ([41]:bW)).bind λx12=>
  some (x9.1,x12)
 else
  (fA x6.2 15).bind λx14=>
  (oU cO n a1 n 0 x14.2 x14.1 (aB.mk 0 0 [] 0 [])).bind λy22=>
  y22.elim (λy22a=>
   (if y22a.1.e_ == 0 then
      (dO y22a.1).bind λx72=>
      some (x72.bK == 2)
     else
      some false).bind λy70=>
   if y70 then
    (kN y22a.1).bind λx78=>
    some (({ y22a.2.1 with bK:=14,jO:=x78.1 }:aB),x78.2)
   else
    (eH n y22a.1).bind λx80=>
    ((jP n x80.2 ([40]:bW)).bind λx83=>
      if x83 then
       (iE x80.2 a1).bind λx86=>
       some (x86.2,({ y22a.2.1 with bK:=17,cZ:=x80.1,aL:=x86.1 }:aB))
      else
       (bM n x80.2 ([91]:bW)).bind λx88=>
       if x88.1=true then
        (dX x88.2 (i64.wrap (a1+1))).bind λx91=>
        (bJ n x91.2 ([93]:bW)).bind λx93=>
        some (x93,({ y22a.2.1 with bK:=16,cZ:=x80.1,aL:=[x91.1] }:aB))
       else
        some (x88.2,({ y22a.2.1 with cZ:=x80.1 }:aB))).bind λy82=>
    some (y82.2,y82.1)) (λy22a=>
   some y22a)
def lG (dX:aC->Int->Option (aB × aC)) (n:Nat) (a0:aC) (a1:Int):Option (aB × aC):=
 (dX a0 (i64.wrap (a1+1))).bind λx2=>
 some (x2.1,x2.2)
def aY:Nat->(aC->Int->Option ((List aB) × aC)) × (aC->Int->Option (aB × aC)) × (aC->Int->Int->Option (aB × aC)) × (aC->Int->Option (aB × aC)) × (aC->Int->Option (aB × aC))
 | 0=>(λ_ _=>none,λ_ _=>none,λ_ _ _=>none,λ_ _=>none,λ_ _=>none)
 | n+1=>(iX (aY n).2.2.2.2 n,pC (aY n).2.2.1 n,oC (aY n).2.2.2.1 (aY n).2.2.1 n,mP (aY n).2.1 (aY n).2.2.2.1 (aY n).1 n,lG (aY n).2.1 n)
def zY (n:Nat):aC->Int->Option ((List aB) × aC):=(aY n).1
def fB (n:Nat):aC->Int->Option (aB × aC):=(aY n).2.1
def Gq (n:Nat):aC->Int->Int->Option (aB × aC):=(aY n).2.2.1
def Fj (n:Nat):aC->Int->Option (aB × aC):=(aY n).2.2.2.1
def DD (n:Nat):aC->Int->Option (aB × aC):=(aY n).2.2.2.2
def lH (n:Nat) (a0:aC) (a1:aB) (a2:Int):Option (aB × aC):=
 (eH n a0).bind λx3=>
 (bJ n x3.2 ([61]:bW)).bind λx5=>
 (fB n x5 a2).bind λx7=>
 (bJ n x7.2 ([59]:bW)).bind λx9=>
 some (({ a1 with cZ:=x3.1,aL:=[x7.1] }:aB),x9)
def oA (n:Nat) (a0:aC) (a1:Int):Option (aB × aC):=
 (fB n a0 (i64.wrap (a1+2))).bind λx2=>
 some (x2.1,x2.2)
@[go_sem] def gR (n:Nat) (a1:Int):Nat->(List aB)->aC->Option ((List aB) × aC)
 | 0,_,_=>none
 | c11+1,v8,v9=>
   if v9.e_ == 0 then
    (oA n v9 a1).bind λx16=>
    fC (v8.length+[x16.1].length<=1073741824) <|
    (bM n x16.2 ([44]:bW)).bind λx21=>
    if !x21.1 then
     some ((v8++[x16.1]),x21.2)
    else
     gR n a1 c11 (v8++[x16.1]) x21.2
   else
    some (v8,v9)
def iU (n:Nat) (a0:aC) (a1:Int):Option ((List aB) × aC):=
 (bJ n a0 ([40]:bW)).bind λx1=>
 (bM n x1 ([41]:bW)).bind λx3=>
 if x3.1=true then
  some ([],x3.2)
 else
  ((gR n a1 n [] x3.2).bind λy10=>
    some (y10.1,y10.2)).bind λy6=>
  (bJ n y6.2 ([41]:bW)).bind λx27=>
  some (y6.1,x27)
def nD (n:Nat) (a0:aC) (a1:aB) (a2:Int):Option (aB × aC):=
 (eH n a0).bind λx5=>
 ((jP n x5.2 ([40]:bW)).bind λx8=>
   if x8 then
    (iU n x5.2 a2).bind λx11=>
    some (x11.2,({ a1 with bK:=10,cZ:=x5.1,aL:=x11.1 }:aB))
   else
    (bM n x5.2 ([91]:bW)).bind λx13=>
    if x13.1=true then
     (fB n x13.2 (i64.wrap (a2+2))).bind λx16=>
     (bJ n x16.2 ([93]:bW)).bind λx18=>
     (bJ n x18 ([61]:bW)).bind λx20=>
     (fB n x20 (i64.wrap (a2+1))).bind λx22=>
     fC ([x16.1].length+[x22.1].length<=1073741824) <|
     some (x22.2,({ a1 with bK:=9,cZ:=x5.1,aL:=([x16.1]++[x22.1]) }:aB))
    else
     (bJ n x13.2 ([61]:bW)).bind λx25=>
     (fB n x25 (i64.wrap (a2+1))).bind λx27=>
     some (x27.2,({ a1 with cZ:=x5.1,aL:=[x27.1] }:aB))).bind λy7=>
 (bJ n y7.1 ([59]:bW)).bind λx32=>
 some (y7.2,x32)
@[go_sem] def nH (fD:aC->Int->Option (aB × aC)) (n:Nat) (a1:Int):Nat->aC->aB->Option (aC × aB)
 | 0,_,_=>none
 | c13+1,v10,v11=>
   (if v10.e_ == 0 then
      (jP n v10 ([125]:bW)).bind λx19=>
      some (!x19)
     else
      some false).bind λy17=>
   if y17 then
    (fD v10 a1).bind λx25=>
    fC (v11.aL.length+[x25.1].length<=1073741824) <|
    nH fD n a1 c13 x25.2 ({ v11 with aL:=(v11.aL++[x25.1]) }:aB)
   else
    some (v10,v11)
def oD (fD:aC->Int->Option (aB × aC)) (n:Nat) (a0:aC) (a1:Int):Option (aB × aC):=
 (mF a0 a1).bind λx2=>
 (fA x2 4).bind λx4=>
 (bJ n x4.2 ([123]:bW)).bind λx7=>
 (nH fD n a1 n x7 x4.1).bind λy12=>
 (bJ n y12.1 ([125]:bW)).bind λx32=>
 some (y12.2,x32)
def lF (lY:aC->aB->Int->Option (aB × aC)) (nC:aC->aB->Int->Option (aB × aC)) (n:Nat) (a0:aC) (a1:Int):Option (aB × aC):=
 (fA a0 8).bind λx2=>
 ((bM n x2.2 ([108,101,116]:bW)).bind λx6=>
   if x6.1=true then
    (lH n x6.2 ({ x2.1 with bK:=5 }:aB) (i64.wrap (a1+1))).bind λx9=>
    some (.inr (x9.1,x9.2))
   else
    (bM n x6.2 ([118,97,114]:bW)).bind λx11=>
    if x11.1=true then
     (lH n x11.2 ({ x2.1 with bK:=6 }:aB) (i64.wrap (a1+1))).bind λx14=>
     some (.inr (x14.1,x14.2))
    else
     (bM n x11.2 ([97,114,114]:bW)).bind λx16=>
     if x16.1=true then
      (eH n x16.2).bind λx19=>
      (mD n x19.2).bind λx21=>
      some (.inl (x21.2,({ x2.1 with bK:=7,cZ:=x19.1,jO:=x21.1 }:aB)))
     else
      (bM n x16.2 ([114,101,116,117,114,110]:bW)).bind λx23=>
      if x23.1=true then
       (fB n x23.2 (i64.wrap (a1+1))).bind λx26=>
       some (.inl (x26.2,({ x2.1 with bK:=13,aL:=[x26.1] }:aB)))
      else
       (bM n x23.2 ([105,102]:bW)).bind λx28=>
       if x28.1=true then
        (lY x28.2 x2.1 a1).bind λx31=>
        some (.inr (x31.1,x31.2))
       else
        (bM n x28.2 ([102,111,114]:bW)).bind λx33=>
        if x33.1=true then
         (nC x33.2 x2.1 a1).bind λx36=>
         some (.inr (x36.1,x36.2))
        else
         (nD n x33.2 x2.1 a1).bind λx38=>
         some (.inr (x38.1,x38.2)):Option ((aC × aB) ⊕ (aB × aC))).bind λy5=>
 y5.elim (λy5a=>
  (bJ n y5a.1 ([59]:bW)).bind λx43=>
  some (y5a.2,x43)) (λy5a=>
  some y5a)
def nG (dP:aC->Int->Option (aB × aC)) (n:Nat) (a0:aC) (a1:aB) (a2:Int):Option (aB × aC):=
 (fB n a0 (i64.wrap (a2+1))).bind λx3=>
 (dP x3.2 (i64.wrap (a2+1))).bind λx5=>
 fC ([x3.1].length+[x5.1].length<=1073741824) <|
 (bM n x5.2 ([101,108,115,101]:bW)).bind λx8=>
 if x8.1=true then
  (dP x8.2 (i64.wrap (a2+1))).bind λx11=>
  fC (([x3.1]++[x5.1]).length+[x11.1].length<=1073741824) <|
  some (({ a1 with bK:=11,aL:=(([x3.1]++[x5.1])++[x11.1]) }:aB),x11.2)
 else
  some (({ a1 with bK:=11,aL:=([x3.1]++[x5.1]) }:aB),x8.2)
def pB (dP:aC->Int->Option (aB × aC)) (n:Nat) (a0:aC) (a1:aB) (a2:Int):Option (aB × aC):=
 (eH n a0).bind λx3=>
 (bJ n x3.2 ([105,110]:bW)).bind λx5=>
 (fB n x5 (i64.wrap (a2+1))).bind λx7=>
 (bJ n x7.2 ([46,46]:bW)).bind λx9=>
 (fB n x9 (i64.wrap (a2+1))).bind λx11=>
 fC ([x7.1].length+[x11.1].length<=1073741824) <|
 (dP x11.2 (i64.wrap (a2+1))).bind λx14=>
 fC (([x7.1]++[x11.1]).length+[x14.1].length<=1073741824) <|
 some (({ a1 with bK:=12,cZ:=x3.1,aL:=(([x7.1]++[x11.1])++[x14.1]) }:aB),x14.2)
def dG:Nat->(aC->Int->Option (aB × aC)) × (aC->Int->Option (aB × aC)) × (aC->aB->Int->Option (aB × aC)) × (aC->aB->Int->Option (aB × aC))
 | 0=>(λ_ _=>none,λ_ _=>none,λ_ _ _=>none,λ_ _ _=>none)
 | n+1=>(oD (dG n).2.1 n,lF (dG n).2.2.1 (dG n).2.2.2 n,nG (dG n).1 n,pB (dG n).1 n)
def eL (n:Nat):aC->Int->Option (aB × aC):=(dG n).1
def DB (n:Nat):aC->Int->Option (aB × aC):=(dG n).2.1
def FN (n:Nat):aC->aB->Int->Option (aB × aC):=(dG n).2.2.1
def Hk (n:Nat):aC->aB->Int->Option (aB × aC):=(dG n).2.2.2
def kW (n:Nat) (a0:aC):Option (aB × aC):=
 (fA a0 2).bind λx2=>
 (bM n x2.2 ([101,120,112,111,114,116]:bW)).bind λx5=>
 if x5.1=true then
  (bJ n x5.2 ([102,110]:bW)).bind λx8=>
  (eH n x8).bind λx10=>
  (gA n x10.2).bind λx12=>
  (bM n x12.2 ([45,62]:bW)).bind λx14=>
  if x14.1=true then
   (bM n x14.2 ([117,51,50]:bW)).bind λx17=>
   if x17.1=true then
    (eL n x17.2 1).bind λx20=>
    fC (x12.1.length+[x20.1].length<=1073741824) <|
    some (({ x2.1 with cZ:=x10.1,jO:=(Mn .u32 1 2),aL:=(x12.1++[x20.1]) }:aB),x20.2)
   else
    (bJ n x17.2 ([117,54,52]:bW)).bind λx25=>
    (eL n x25 1).bind λx27=>
    fC (x12.1.length+[x27.1].length<=1073741824) <|
    some (({ x2.1 with cZ:=x10.1,jO:=(Mn .u32 1 4),aL:=(x12.1++[x27.1]) }:aB),x27.2)
  else
   (eL n x14.2 1).bind λx32=>
   fC (x12.1.length+[x32.1].length<=1073741824) <|
   some (({ x2.1 with cZ:=x10.1,jO:=1,aL:=(x12.1++[x32.1]) }:aB),x32.2)
 else
  (bJ n x5.2 ([102,110]:bW)).bind λx37=>
  (eH n x37).bind λx39=>
  (gA n x39.2).bind λx41=>
  (bM n x41.2 ([45,62]:bW)).bind λx43=>
  if x43.1=true then
   (bM n x43.2 ([117,51,50]:bW)).bind λx46=>
   if x46.1=true then
    (eL n x46.2 1).bind λx49=>
    fC (x41.1.length+[x49.1].length<=1073741824) <|
    some (({ x2.1 with cZ:=x39.1,jO:=(Mn .u32 x2.1.jO 2),aL:=(x41.1++[x49.1]) }:aB),x49.2)
   else
    (bJ n x46.2 ([117,54,52]:bW)).bind λx54=>
    (eL n x54 1).bind λx56=>
    fC (x41.1.length+[x56.1].length<=1073741824) <|
    some (({ x2.1 with cZ:=x39.1,jO:=(Mn .u32 x2.1.jO 4),aL:=(x41.1++[x56.1]) }:aB),x56.2)
  else
   (eL n x43.2 1).bind λx61=>
   fC (x41.1.length+[x61.1].length<=1073741824) <|
   some (({ x2.1 with cZ:=x39.1,aL:=(x41.1++[x61.1]) }:aB),x61.2)
@[go_sem] def uX (n:Nat):Nat->aC->aB->Option (aC × aB)
 | 0,_,_=>none
 | c13+1,v10,v11=>
   (if v10.e_ == 0 then
      (dO v10).bind λx19=>
      some (x19.bK != 4)
     else
      some false).bind λy17=>
   if y17 then
    (kW n v10).bind λx25=>
    fC (v11.aL.length+[x25.1].length<=1073741824) <|
    uX n c13 x25.2 ({ v11 with aL:=(v11.aL++[x25.1]) }:aB)
   else
    some (v10,v11)
def Ay (n:Nat) (a0:bW):Option (aB × Int × Int):=
 (Ab n a0).bind λx2=>
 if x2.2.1 != 0 then
  some ((aB.mk 0 0 [] 0 []),x2.2.1,x2.2.2)
 else
  (fA (aC.mk x2.1 0 0 0 0) 1).bind λx6=>
  (uX n n x6.2 x6.1).bind λy12=>
  if y12.1.e_ != 0 then
   some ((aB.mk 0 0 [] 0 []),y12.1.e_,y12.1.Dr)
  else
   some (y12.2,0,0)
def qC (a0:aE) (a1:aG) (a2:Int) (a3:Int):Option aG:=
 if a1.e_ == 0 then
  some (aG.mk a2 a3)
 else
  some a1
def aS (a0:aE) (a1:aG) (a2:Bool) (a3:Int) (a4:Int):Option aG:=
 if !a2 then
  (qC a0 a1 a3 a4).bind λx2=>
  some x2
 else
  some a1
def AN (a0:aQ) (a1:bW):Option Bool:=
 some (decide (a0.gP=a1))
@[go_sem] def cH (a0:(List aQ)) (a1:bW):Nat->Int->Option (Unit ⊕ Int)
 | 0,_=>none
 | c4+1,v2=>
   if decide (v2<(a0.length:Int)) then
    (aZ a0 v2).bind λx9=>
    (AN x9 a1).bind λx10=>
    if x10 then
     some (.inr v2)
    else
     cH a0 a1 c4 (i64.wrap (v2+1))
   else
    some (.inl ())
def fH (n:Nat) (a0:(List aQ)) (a1:bW):Option Int:=
 (cH a0 a1 n 0).bind λy3=>
 y3.elim (λy3a=>
  some (-1:Int)) (λy3a=>
  some y3a)
def pM (n:Nat) (a0:aW) (a1:bW):Option (Int × Bool):=
 (fH n a0.aV a1).bind λx3=>
 some ((max x3 0),(decide (0<=x3)))
@[go_sem] def wA (a0:bW):Nat->Int->Option (Unit ⊕ Int)
 | 0,_=>none
 | c4+1,v2=>
   if decide (v2<5) then
    (aZ cK v2).bind λx9=>
    if decide (x9.Ru=a0) then
     some (.inr x9.RR)
    else
     wA a0 c4 (i64.wrap (v2+1))
   else
    some (.inl ())
def vB (n:Nat) (a0:bW):Option Int:=
 (wA a0 n 0).bind λy3=>
 y3.elim (λy3a=>
  some 0) (λy3a=>
  some y3a)
def yQ (a0:Int):Option Int:=
 if (sJ .u32 a0 2) != 0 then
  some 2
 else
  if (sJ .u32 a0 4) != 0 then
   some 3
  else
   some 0
@[go_sem] def kK (n:Nat) (a2:aB):Nat->Int->aE->aG->Option (aE × aG)
 | 0,_,_,_=>none
 | c9+1,v5,v6,v7=>
   if decide (v5<(a2.aL.length:Int)) then
    (aZ a2.aL v5).bind λx14=>
    (pM n v6.p_ x14.cZ).bind λx20=>
    (if !x20.2 then
       (vB n x14.cZ).bind λx25=>
       (aS v6 v7 (x25 == 0) 131 x14.fM).bind λx26=>
       some x26
      else
       (aS v6 v7 false 131 x14.fM).bind λx29=>
       some x29).bind λy23=>
    (yQ x14.jO).bind λx34=>
    fC (v6.f_<0) <|
    fC (v6.p_.aV.length+1<=1073741824) <|
    kK n a2 c9 (i64.wrap (v5+1)) ({ v6 with p_:=⟨(v6.p_.aV++[(aQ.mk x14.cZ ((sJ .u32 x14.jO 1) != 0) x34 0 [] [])])⟩ }:aE) y23
   else
    some (v6,v7)
def pD (n:Nat) (a0:aE) (a1:aG) (a2:aB):Option (aE × aG):=
 (aS a0 a1 (decide ((a2.aL.length:Int)<=64)) 136 a2.fM).bind λx2=>
 (kK n a2 n 0 a0 x2).bind λy8=>
 fC (0<=(a2.aL.length:Int)/\(a2.aL.length:Int)<=1073741824) <|
 some (({ y8.1 with bX:=(List.replicate a2.aL.length []) }:aE),y8.2)
@[go_sem] def jB (x1:aQ):Nat->Int->aE->Option aE
 | 0,_,_=>none
 | c31+1,v28,v29=>
   if decide (v28<x1.aT) then
    fC (v29.bB.length+1<=1073741824) <|
    jB x1 c31 (i64.wrap (v28+1)) ({ v29 with bB:=(v29.bB++[v28]) }:aE)
   else
    some v29
def mL (n:Nat) (a0:aE) (a1:aG) (a2:Int):Option (aE × aG):=
 (aZ a0.p_.aV a2).bind λx1=>
 (jB x1 n 0 ({ a0 with f_:=a2,bB:=[],gC:=a2 }:aE)).bind λy30=>
 some (y30,a1)
def xH (a0:Int):Option Bool:=
 (if decide (1<=a0) then
    if decide (a0<=255) then
     some true
    else
     if decide (255<a0) then
      if decide (a0<=1024) then
       some ((a0.tmod 4) == 0)
      else
       some false
     else
      some false
   else
    if decide (255<a0) then
     if decide (a0<=1024) then
      some ((a0.tmod 4) == 0)
     else
      some false
    else
     some false).bind λy1=>
 some y1
@[go_sem] def kY (a0:aE) (a2:bW):Nat->Int->Option (Unit ⊕ Int)
 | 0,_=>none
 | c5+1,v3=>
   if decide (0<=v3) then
    (aZ a0.p_.aV a0.f_).bind λx10=>
    (aZ a0.bB v3).bind λx13=>
    (aZ x10.aR x13).bind λx14=>
    if decide (x14.gP=a2) then
     some (.inr x13)
    else
     kY a0 a2 c5 (i64.wrap (v3 - 1))
   else
    some (.inl ())
def lM (n:Nat) (a0:aE) (a1:aG) (a2:bW):Option Int:=
 (kY a0 a2 n (i64.wrap ((a0.bB.length:Int) - 1))).bind λy4=>
 y4.elim (λy4a=>
  some (-1:Int)) (λy4a=>
  some y4a)
def eM (n:Nat) (a0:aE) (a1:aG) (a2:aJ) (a3:Int):Option (Int × aE × aG):=
 (lM n a0 a1 a2.gP).bind λx2=>
 (aS a0 a1 (decide (x2<0)) 131 a3).bind λx3=>
 (aZ a0.p_.aV a0.f_).bind λx6=>
 (aS a0 x3 (decide ((x6.aR.length:Int)<250)) 136 a3).bind λx9=>
 if x9.e_ != 0 then
  some ((-1:Int),a0,x9)
 else
  fC (x6.aR.length+1<=1073741824) <|
  fC (a0.bB.length+1<=1073741824) <|
  some ((x6.aR.length:Int),({ a0 with p_:=⟨(a0.p_.aV.set a0.f_.toNat { x6 with aR:=(x6.aR++[a2]) })⟩,bB:=(a0.bB++[(x6.aR.length:Int)]) }:aE),x9)
@[go_sem] def jW (n:Nat) (a2:(List aB)):Nat->Int->aE->aG->Option (aE × aG)
 | 0,_,_,_=>none
 | c6+1,v2,v3,v4=>
   if decide (v2<(a2.length:Int)) then
    ((aZ a2 v2).bind λx12=>
      (if (i64.wrap x12.jO) == 4 then
         some (decide (0<(x12.aL.length:Int)))
        else
         some false).bind λy19=>
      if y19 then
       (aZ x12.aL 0).bind λx25=>
       (xH (i64.wrap x25.jO)).bind λx31=>
       (aS v3 v4 x31 136 x12.fM).bind λx32=>
       (eM n v3 x32 (aJ.mk x12.cZ (i64.wrap x12.jO) (i64.wrap x25.jO)) x12.fM).bind λx35=>
       some (x35.2.1,x35.2.2)
      else
       (eM n v3 v4 (aJ.mk x12.cZ (i64.wrap x12.jO) 0) x12.fM).bind λx37=>
       some (x37.2.1,x37.2.2)).bind λy11=>
    jW n a2 c6 (i64.wrap (v2+1)) y11.1 y11.2
   else
    some (v3,v4)
def rE (n:Nat) (a0:aE) (a1:aG) (a2:(List aB)):Option (aE × aG):=
 (jW n a2 n 0 a0 a1).bind λy5=>
 (aZ y5.1.p_.aV y5.1.f_).bind λx61=>
 some (({ y5.1 with p_:=⟨(y5.1.p_.aV.set y5.1.f_.toNat { x61 with aT:=(x61.aR.length:Int) })⟩ }:aE),y5.2)
@[go_sem] def oN (a0:aQ):Nat->Int->Int->Option Int
 | 0,_,_=>none
 | c8+1,v5,v6=>
   if decide (v6<((a0.aR.take a0.aT.toNat).length:Int)) then
    ((aZ (a0.aR.take a0.aT.toNat) v6).bind λx14=>
      if x14.bK == 3 then
       some (i64.wrap ((i64.wrap (v5+(i64.wrap ((v5.tmod 2)+1))))+1))
      else
       some (i64.wrap (v5+1))).bind λy13=>
    oN a0 c8 y13 (i64.wrap (v6+1))
   else
    some v5
def tH (n:Nat) (a0:aQ):Option Int:=
 fC (0<=a0.aT/\a0.aT<=(a0.aR.length:Int)) <|
 (oN a0 n 0 0).bind λy7=>
 some y7
def lL (n:Nat) (a0:aE) (a1:aG) (a2:Int) (a3:aB):Option (aE × aG):=
 (mL n a0 a1 a2).bind λx2=>
 fC (0<=(max (i64.wrap ((a3.aL.length:Int) - 1)) 0)/\(max (i64.wrap ((a3.aL.length:Int) - 1)) 0)<=(a3.aL.length:Int)) <|
 (rE n x2.1 x2.2 (a3.aL.take (max (i64.wrap ((a3.aL.length:Int) - 1)) 0).toNat)).bind λx4=>
 if x4.2.e_ == 0 then
  ((aZ x4.1.p_.aV x4.1.f_).bind λx10=>
    if !x10.dU then
     (aS x4.1 x4.2 true 136 a3.fM).bind λx27=>
     some x27
    else
     (tH n x10).bind λx29=>
     (aS x4.1 x4.2 (decide (x29<=4)) 136 a3.fM).bind λx30=>
     some x30).bind λy9=>
  some (x4.1,y9)
 else
  some (x4.1,x4.2)
def fF (a0:aE) (a1:aG) (a2:Int):Option Int:=
 if decide (a2<0) then
  some 0
 else
  (aZ a0.p_.aV a0.f_).bind λx2=>
  (aZ x2.aR a2).bind λx5=>
  some x5.bK
def gZ (n:Nat) (a0:aE) (a1:aG) (a2:aB):Option (Int × aG):=
 (lM n a0 a1 a2.cZ).bind λx2=>
 (aS a0 a1 (decide (0<=x2)) 130 a2.fM).bind λx4=>
 some (x2,x4)
def tY (a0:Int) (a1:Int):Option Int:=
 (if a0 == a1 then
    if decide (1<=a0) then
     some (decide (a0<=3))
    else
     some false
   else
    some false).bind λy1=>
 if y1 then
  some a0
 else
  (if a0 == 1 then
     if a1 == 2 then
      some true
     else
      if a0 == 2 then
       some (a1 == 1)
      else
       some false
    else
     if a0 == 2 then
      some (a1 == 1)
     else
      some false).bind λy8=>
  if y8 then
   some 2
  else
   some 0
def cE (a0:aE) (a1:aG) (a2:aD) (a3:Int):Option (aD × aG):=
 (aS a0 a1 (a3 != 0) 132 a2.fM).bind λx3=>
 some (({ a2 with cJ:=a3 }:aD),x3)
def iJ (a0:aE) (a1:aG) (a2:aD) (a3:aD) (a4:aD):Option (aD × aG):=
 (aS a0 a1 (a4.cJ == 1) 133 a4.fM).bind λx5=>
 if a3.cJ == 3 then
  (if decide (a4.dR=([110,117,109]:bW)) then
     (aS a0 x5 (decide (a4.N_<=63)) 132 a2.fM).bind λx10=>
     some x10
    else
     (aS a0 x5 false 132 a2.fM).bind λx12=>
     some x12).bind λy8=>
  (cE a0 y8 a2 a3.cJ).bind λx17=>
  some (x17.1,x17.2)
 else
  (cE a0 x5 a2 a3.cJ).bind λx19=>
  some (x19.1,x19.2)
def tW (a0:Int):Option Int:=
 if a0 == 1 then
  some 2
 else
  some a0
def rK (a0:Int):Option Bool:=
 (if a0 == 1 then
    some true
   else
    some (a0 == 2)).bind λy1=>
 some y1
def lV (a0:aE) (a1:aG) (a2:aD):Option Int:=
 (aZ a2.aL 1).bind λx2=>
 (aZ a2.aL 2).bind λx3=>
 (tY x2.cJ x3.cJ).bind λx4=>
 ((aZ a2.aL 0).bind λx17=>
   (rK x17.cJ).bind λx18=>
   if !x18 then
    some true
   else
    some (x4 == 0)).bind λy16=>
 if y16 then
  some 0
 else
  (tW x4).bind λx30=>
  some x30
def oJ (mO:aE->aG->aB->aD->Option (aD × aG)) (lZ:aE->aG->aB->aD->Option (aD × aG)) (lD:aE->aG->aB->aD->Option (aD × aG)) (kQ:aE->aG->aB->aD->Option (aD × aG)) (n:Nat) (a0:aE) (a1:aG) (a2:aB):Option (aD × aG):=
 if a2.bK == 14 then
  some ((aD.mk ([110,117,109]:bW) 1 a2.jO (-1:Int) [] a2.fM),a1)
 else
  if a2.bK == 15 then
   (gZ n a0 a1 a2).bind λx6=>
   (fF a0 x6.2 x6.1).bind λx8=>
   (aS a0 x6.2 (x8 != 4) 132 a2.fM).bind λx10=>
   some ((aD.mk ([118,97,114]:bW) x8 0 x6.1 [] a2.fM),x10)
  else
   if a2.bK == 16 then
    (mO a0 a1 a2 (aD.mk [] 0 0 (-1:Int) [] a2.fM)).bind λx13=>
    some (x13.1,x13.2)
   else
    if a2.bK == 18 then
     (lZ a0 a1 a2 (aD.mk [] 0 0 (-1:Int) [] a2.fM)).bind λx16=>
     some (x16.1,x16.2)
    else
     if a2.bK == 19 then
      (lD a0 a1 a2 (aD.mk [] 0 0 (-1:Int) [] a2.fM)).bind λx19=>
      some (x19.1,x19.2)
     else
      (kQ a0 a1 a2 (aD.mk [] 0 0 (-1:Int) [] a2.fM)).bind λx21=>
      some (x21.1,x21.2)
def oI (dF:aE->aG->aB->Option (aD × aG)) (n:Nat) (a0:aE) (a1:aG) (a2:aB) (a3:aD):Option (aD × aG):=
 (aZ a2.aL 0).bind λx4=>
 (dF a0 a1 x4).bind λx5=>
 (gZ n a0 x5.2 a2).bind λx13=>
 (fF a0 x13.2 x13.1).bind λx15=>
 (aS a0 x13.2 (x15 == 4) 132 a2.fM).bind λx16=>
 (aS a0 x16 (x5.1.cJ == 1) 133 x5.1.fM).bind λx19=>
 (if x19.e_ == 0 then
    some (decide (x5.1.dR=([110,117,109]:bW)))
   else
    some false).bind λy21=>
 if y21 then
  (aZ a0.p_.aV a0.f_).bind λx27=>
  (aZ x27.aR x13.1).bind λx30=>
  (aS a0 x19 (decide ((i64.wrap x5.1.N_)<x30.qZ)) 137 x5.1.fM).bind λx31=>
  some (({ a3 with dR:=([105,110,100,101,120]:bW),cJ:=2,eB:=x13.1,aL:=[x5.1] }:aD),x31)
 else
  some (({ a3 with dR:=([105,110,100,101,120]:bW),cJ:=2,eB:=x13.1,aL:=[x5.1] }:aD),x19)
def nJ (cN:aE->aG->(List aB)->Option ((List aD) × aG)) (n:Nat) (a0:aE) (a1:aG) (a2:aB) (a3:aD):Option (aD × aG):=
 (cN a0 a1 a2.aL).bind λx4=>
 if decide (a2.cZ=([45]:bW)) then
  (aZ x4.1 0).bind λx7=>
  some (({ a3 with dR:=([110,101,103]:bW),cJ:=x7.cJ,aL:=x4.1 }:aD),x4.2)
 else
  (aZ x4.1 0).bind λx13=>
  some (({ a3 with dR:=([110,111,116]:bW),cJ:=x13.cJ,aL:=x4.1 }:aD),x4.2)
def mT (cN:aE->aG->(List aB)->Option ((List aD) × aG)) (n:Nat) (a0:aE) (a1:aG) (a2:aB) (a3:aD):Option (aD × aG):=
 (cN a0 a1 a2.aL).bind λx4=>
 (aZ x4.1 0).bind λx6=>
 (aZ x4.1 1).bind λx9=>
 (tY x6.cJ x9.cJ).bind λx20=>
 if decide (a2.cZ=([47]:bW)) then
  (aS a0 x4.2 (x6.cJ == 1) 133 x6.fM).bind λx23=>
  (aS a0 x23 (x9.cJ == 1) 133 x9.fM).bind λx25=>
  (cE a0 x25 ({ a3 with dR:=a2.cZ,aL:=x4.1 }:aD) 1).bind λx27=>
  some (x27.1,x27.2)
 else
  if decide (a2.cZ=([37]:bW)) then
   (aS a0 x4.2 (x6.cJ == 1) 133 x6.fM).bind λx30=>
   (aS a0 x30 (x9.cJ == 1) 133 x9.fM).bind λx32=>
   (cE a0 x32 ({ a3 with dR:=a2.cZ,aL:=x4.1 }:aD) 1).bind λx34=>
   some (x34.1,x34.2)
  else
   if decide (a2.cZ=([60,60]:bW)) then
    (iJ a0 x4.2 ({ a3 with dR:=a2.cZ,aL:=x4.1 }:aD) x6 x9).bind λx37=>
    some (x37.1,x37.2)
   else
    if decide (a2.cZ=([62,62]:bW)) then
     (iJ a0 x4.2 ({ a3 with dR:=a2.cZ,aL:=x4.1 }:aD) x6 x9).bind λx40=>
     some (x40.1,x40.2)
    else
     if decide (a2.cZ=([60,60,60]:bW)) then
      (iJ a0 x4.2 ({ a3 with dR:=a2.cZ,aL:=x4.1 }:aD) x6 x9).bind λx43=>
      some (x43.1,x43.2)
     else
      if decide (a2.cZ=([42]:bW)) then
       (aS a0 x4.2 (x20 != 3) 132 a2.fM).bind λx46=>
       (cE a0 x46 ({ a3 with dR:=a2.cZ,aL:=x4.1 }:aD) x20).bind λx48=>
       some (x48.1,x48.2)
      else
       if decide (a2.cZ=([61,61]:bW)) then
        if x20 == 3 then
         (cE a0 x4.2 ({ a3 with dR:=a2.cZ,aL:=x4.1 }:aD) 2).bind λx52=>
         some (x52.1,x52.2)
        else
         (cE a0 x4.2 ({ a3 with dR:=a2.cZ,aL:=x4.1 }:aD) x20).bind λx54=>
         some (x54.1,x54.2)
       else
        if decide (a2.cZ=([60]:bW)) then
         if x20 == 3 then
          (cE a0 x4.2 ({ a3 with dR:=a2.cZ,aL:=x4.1 }:aD) 2).bind λx58=>
          some (x58.1,x58.2)
         else
          (cE a0 x4.2 ({ a3 with dR:=a2.cZ,aL:=x4.1 }:aD) x20).bind λx60=>
          some (x60.1,x60.2)
        else
         (cE a0 x4.2 ({ a3 with dR:=a2.cZ,aL:=x4.1 }:aD) x20).bind λx62=>
         some (x62.1,x62.2)
def mA (cN:aE->aG->(List aB)->Option ((List aD) × aG)) (n:Nat) (a0:aE) (a1:aG) (a2:aB) (a3:aD):Option (aD × aG):=
 (vB n a2.cZ).bind λx4=>
 (aS a0 a1 (decide (0<x4)) 130 a2.fM).bind λx6=>
 (aS a0 x6 ((a2.aL.length:Int) == x4) 136 a2.fM).bind λx8=>
 (cN a0 x8 a2.aL).bind λx10=>
 if x10.2.e_ != 0 then
  some (({ a3 with dR:=a2.cZ,aL:=x10.1 }:aD),x10.2)
 else
  (aZ x10.1 0).bind λx13=>
  if decide (a2.cZ=([115,101,108,101,99,116]:bW)) then
   (lV a0 x10.2 ({ a3 with dR:=a2.cZ,aL:=x10.1 }:aD)).bind λx20=>
   (cE a0 x10.2 ({ a3 with dR:=a2.cZ,aL:=x10.1 }:aD) x20).bind λx21=>
   some (x21.1,x21.2)
  else
   if decide (a2.cZ=([108,111,110,103]:bW)) then
    (rK x13.cJ).bind λx25=>
    (aS a0 x10.2 x25 132 a2.fM).bind λx26=>
    (cE a0 x26 ({ a3 with dR:=a2.cZ,aL:=x10.1 }:aD) 3).bind λx29=>
    some (x29.1,x29.2)
   else
    if decide (a2.cZ=([119,105,100,101]:bW)) then
     ((rK x13.cJ).bind λx33=>
       if x33 then
        (aZ x10.1 1).bind λx36=>
        (rK x36.cJ).bind λx37=>
        (aS a0 x10.2 x37 132 a2.fM).bind λx38=>
        some x38
       else
        (aS a0 x10.2 false 132 a2.fM).bind λx46=>
        some x46).bind λy32=>
     (cE a0 y32 ({ a3 with dR:=a2.cZ,aL:=x10.1 }:aD) 3).bind λx51=>
     some (x51.1,x51.2)
    else
     (aS a0 x10.2 (x13.cJ == 3) 132 a2.fM).bind λx53=>
     (cE a0 x53 ({ a3 with dR:=a2.cZ,aL:=x10.1 }:aD) 2).bind λx55=>
     some (x55.1,x55.2)
@[go_sem] def rH (dF:aE->aG->aB->Option (aD × aG)) (a2:(List aB)) (a0:aE):Nat->(List aD)->Int->aG->Option ((List aD) × aG)
 | 0,_,_,_=>none
 | c6+1,v2,v3,v4=>
   if decide (v3<(a2.length:Int)) then
    (aZ a2 v3).bind λx11=>
    (dF a0 v4 x11).bind λx17=>
    fC (v2.length+[x17.1].length<=1073741824) <|
    rH dF a2 a0 c6 (v2++[x17.1]) (i64.wrap (v3+1)) x17.2
   else
    some (v2,v4)
def pG (dF:aE->aG->aB->Option (aD × aG)) (n:Nat) (a0:aE) (a1:aG) (a2:(List aB)):Option ((List aD) × aG):=
 (rH dF a2 a0 n [] 0 a1).bind λy5=>
 some (y5.1,y5.2)
def bR:Nat->(aE->aG->aB->Option (aD × aG)) × (aE->aG->aB->aD->Option (aD × aG)) × (aE->aG->aB->aD->Option (aD × aG)) × (aE->aG->aB->aD->Option (aD × aG)) × (aE->aG->aB->aD->Option (aD × aG)) × (aE->aG->(List aB)->Option ((List aD) × aG))
 | 0=>(λ_ _ _=>none,λ_ _ _ _=>none,λ_ _ _ _=>none,λ_ _ _ _=>none,λ_ _ _ _=>none,λ_ _ _=>none)
 | n+1=>(oJ (bR n).2.1 (bR n).2.2.1 (bR n).2.2.2.1 (bR n).2.2.2.2.1 n,oI (bR n).1 n,nJ (bR n).2.2.2.2.2 n,mT (bR n).2.2.2.2.2 n,mA (bR n).2.2.2.2.2 n,pG (bR n).1 n)
def hY (n:Nat):aE->aG->aB->Option (aD × aG):=(bR n).1
def Gs (n:Nat):aE->aG->aB->aD->Option (aD × aG):=(bR n).2.1
def FO (n:Nat):aE->aG->aB->aD->Option (aD × aG):=(bR n).2.2.1
def Fw (n:Nat):aE->aG->aB->aD->Option (aD × aG):=(bR n).2.2.2.1
def Ey (n:Nat):aE->aG->aB->aD->Option (aD × aG):=(bR n).2.2.2.2.1
def Hl (n:Nat):aE->aG->(List aB)->Option ((List aD) × aG):=(bR n).2.2.2.2.2
def eV (n:Nat) (a0:aE) (a1:aG) (a2:aB):Option (aD × aG):=
 (hY n a0 a1 a2).bind λx3=>
 (aS a0 x3.2 (x3.1.cJ == 1) 133 a2.fM).bind λx6=>
 some (x3.1,x6)
def mS (n:Nat) (a0:aE) (a1:aG) (a2:aB):Option (Int × aG):=
 (pM n a0.p_ a2.cZ).bind λx2=>
 (aS a0 a1 x2.2 130 a2.fM).bind λx5=>
 some (x2.1,x5)
def oG (a0:aE) (a1:aG) (a2:Int):Option (List aJ):=
 (aZ a0.p_.aV a2).bind λx1=>
 fC (0<=x1.aT/\x1.aT<=(x1.aR.length:Int)) <|
 some (x1.aR.take (x1.aT.toNat))
def tZ (a0:Int) (a1:Int):Option Bool:=
 (if a0 == a1 then
    some true
   else
    if a0 == 1 then
     some (a1 == 2)
    else
     some false).bind λy1=>
 some y1
def mM (n:Nat) (a0:aE) (a1:aG) (a2:aB) (a3:Int):Option (aD × aG):=
 (aS a0 a1 (a2.bK == 15) 132 a2.fM).bind λx3=>
 (gZ n a0 x3 a2).bind λx5=>
 ((fF a0 x5.2 x5.1).bind λx8=>
   if x8 == 4 then
    (aZ a0.p_.aV a0.f_).bind λx11=>
    (aZ x11.aR (max x5.1 0)).bind λx14=>
    (aS a0 x5.2 (x14.qZ == a3) 132 a2.fM).bind λx15=>
    some x15
   else
    (aS a0 x5.2 false 132 a2.fM).bind λx40=>
    some x40).bind λy7=>
 some ((aD.mk ([118,97,114]:bW) 4 0 x5.1 [] a2.fM),y7)
def mU (n:Nat) (a0:aE) (a1:aG) (a2:aB) (a3:aJ):Option (aD × aG):=
 if a3.bK == 4 then
  (mM n a0 a1 a2 a3.qZ).bind λx5=>
  some (x5.1,x5.2)
 else
  if a3.bK == 1 then
   (eV n a0 a1 a2).bind λx8=>
   some (x8.1,x8.2)
  else
   (hY n a0 a1 a2).bind λx10=>
   (tZ x10.1.cJ a3.bK).bind λx13=>
   (aS a0 x10.2 x13 132 a2.fM).bind λx14=>
   some (x10.1,x14)
@[go_sem] def kZ (n:Nat) (a2:aB) (x20:(List aJ)) (a0:aE) (x7:(List Int)) (x4:(Int × aG)):Nat->Int->aG->aA->Option (aG × aA)
 | 0,_,_,_=>none
 | c29+1,v25,v26,v27=>
   if decide (v25<(a2.aL.length:Int)) then
    (aZ a2.aL v25).bind λx34=>
    if v26.e_ != 0 then
     some (v26,v27)
    else
     (aZ x20 v25).bind λx41=>
     (mU n ({ a0 with bX:=(a0.bX.set a0.gC.toNat (x7++[x4.1])) }:aE) v26 x34 x41).bind λx42=>
     fC (v27.aL.length+[x42.1].length<=1073741824) <|
     kZ n a2 x20 a0 x7 x4 c29 (i64.wrap (v25+1)) x42.2 ({ v27 with aL:=(v27.aL++[x42.1]) }:aA)
   else
    some (v26,v27)
def jU (n:Nat) (a0:aE) (a1:aG) (a2:aB) (a3:aA) (a4:Int):Option (aA × aE × aG):=
 (mS n a0 a1 a2).bind λx4=>
 if x4.2.e_ != 0 then
  some (({ a3 with dR:=([99,97,108,108]:bW),eB:=a4,iH:=x4.1,aL:=[] }:aA),a0,x4.2)
 else
  (aZ a0.bX a0.gC).bind λx7=>
  fC (x7.length+1<=1073741824) <|
  (oG ({ a0 with bX:=(a0.bX.set a0.gC.toNat (x7++[x4.1])) }:aE) x4.2 x4.1).bind λx20=>
  (aS ({ a0 with bX:=(a0.bX.set a0.gC.toNat (x7++[x4.1])) }:aE) x4.2 ((a2.aL.length:Int) == (x20.length:Int)) 136 a2.fM).bind λx22=>
  (kZ n a2 x20 a0 x7 x4 n 0 x22 ({ a3 with dR:=([99,97,108,108]:bW),eB:=a4,iH:=x4.1,aL:=[] }:aA)).bind λy28=>
  some (y28.2,({ a0 with bX:=(a0.bX.set a0.gC.toNat (x7++[x4.1])) }:aE),y28.1)
def jZ (n:Nat) (a0:aE) (a1:aG) (a2:aB):Option Bool:=
 (if a2.bK == 17 then
    (vB n a2.cZ).bind λx4=>
    some (x4 == 0)
   else
    some false).bind λy2=>
 some y2
def pF (n:Nat) (a0:aE) (a1:aG) (a2:aB) (a3:aA):Option (aA × aE × aG):=
 (aZ a2.aL 0).bind λx4=>
 (jZ n a0 a1 x4).bind λx5=>
 if x5 then
  (jU n a0 a1 x4 ({ a3 with aL:=[] }:aA) (-1:Int)).bind λx13=>
  if x13.2.2.e_ != 0 then
   some (({ x13.1 with fM:=a2.fM }:aA),x13.2.1,x13.2.2)
  else
   (aZ x13.2.1.p_.aV x13.1.iH).bind λx16=>
   (aS x13.2.1 x13.2.2 (x16.bN != 0) 132 a2.fM).bind λx30=>
   (eM n x13.2.1 x30 (aJ.mk a2.cZ x16.bN 0) a2.fM).bind λx32=>
   some (({ x13.1 with eB:=x32.1,fM:=a2.fM }:aA),x32.2.1,x32.2.2)
 else
  (hY n a0 a1 x4).bind λx34=>
  (tW x34.1.cJ).bind λx37=>
  (eM n a0 x34.2 (aJ.mk a2.cZ x37 0) a2.fM).bind λx38=>
  some (({ a3 with dR:=([118,97,114]:bW),eB:=x38.1,aL:=[x34.1] }:aA),x38.2.1,x38.2.2)
def nK (n:Nat) (a0:aE) (a1:aG) (a2:aB):Option (Int × aG):=
 (gZ n a0 a1 a2).bind λx2=>
 (fF a0 x2.2 x2.1).bind λx4=>
 (if x4 == 2 then
    (aS a0 x2.2 true 132 a2.fM).bind λx8=>
    some x8
   else
    (aS a0 x2.2 (x4 == 3) 132 a2.fM).bind λx10=>
    some x10).bind λy6=>
 some (x2.1,y6)
def qV (n:Nat) (a0:aE) (a1:aG) (a2:aB) (a3:aA):Option (aA × aE × aG):=
 (nK n a0 a1 a2).bind λx4=>
 (aZ a2.aL 0).bind λx6=>
 (jZ n a0 x4.2 x6).bind λx7=>
 if x7 then
  (jU n a0 x4.2 x6 ({ a3 with aL:=[] }:aA) x4.1).bind λx15=>
  if x15.2.2.e_ == 0 then
   (fF x15.2.1 x15.2.2 x4.1).bind λx18=>
   (aZ x15.2.1.p_.aV x15.1.iH).bind λx19=>
   (aS x15.2.1 x15.2.2 (x19.bN == x18) 132 a2.fM).bind λx21=>
   some (({ x15.1 with fM:=a2.fM }:aA),x15.2.1,x21)
  else
   some (({ x15.1 with fM:=a2.fM }:aA),x15.2.1,x15.2.2)
 else
  (hY n a0 x4.2 x6).bind λx36=>
  (fF a0 x36.2 x4.1).bind λx39=>
  (tZ x36.1.cJ x39).bind λx40=>
  (aS a0 x36.2 x40 132 a2.fM).bind λx41=>
  some (({ a3 with dR:=([115,101,116]:bW),eB:=x4.1,aL:=[x36.1] }:aA),a0,x41)
def pE (n:Nat) (a0:aE) (a1:aG) (a2:aB) (a3:Int):Option (aD × aG):=
 (eV n a0 a1 a2).bind λx3=>
 (if x3.2.e_ == 0 then
    some (decide (x3.1.dR=([110,117,109]:bW)))
   else
    some false).bind λy6=>
 if y6 then
  (aZ a0.p_.aV a0.f_).bind λx12=>
  (aZ x12.aR a3).bind λx15=>
  (aS a0 x3.2 (decide ((i64.wrap x3.1.N_)<x15.qZ)) 137 a2.fM).bind λx16=>
  some (x3.1,x16)
 else
  some (x3.1,x3.2)
def qW (n:Nat) (a0:aE) (a1:aG) (a2:aB) (a3:aA):Option (aA × aG):=
 (gZ n a0 a1 a2).bind λx4=>
 (fF a0 x4.2 x4.1).bind λx6=>
 (aS a0 x4.2 (x6 == 4) 132 a2.fM).bind λx7=>
 (aZ a2.aL 0).bind λx10=>
 (pE n a0 x7 x10 x4.1).bind λx11=>
 (aZ a2.aL 1).bind λx19=>
 (hY n a0 x11.2 x19).bind λx20=>
 (tZ x20.1.cJ 2).bind λx28=>
 (aS a0 x20.2 x28 132 a2.fM).bind λx29=>
 some (({ a3 with dR:=([112,117,116]:bW),eB:=x4.1,aL:=[x11.1,x20.1] }:aA),x29)
def qD (n:Nat) (a0:aE) (a1:aG) (a2:aB) (a3:aA) (a4:Bool):Option (aA × aE × aG):=
 (if a4 then
    (aZ a0.p_.aV a0.f_).bind λx6=>
    (aS a0 a1 (x6.bN != 0) 135 a2.fM).bind λx9=>
    some x9
   else
    (aS a0 a1 false 135 a2.fM).bind λx24=>
    some x24).bind λy4=>
 (if y4.e_ == 0 then
    (aZ a2.aL 0).bind λx31=>
    (jZ n a0 y4 x31).bind λx32=>
    some x32
   else
    some false).bind λy29=>
 if y29 then
  (aZ a2.aL 0).bind λx43=>
  (jU n a0 y4 x43 ({ a3 with aL:=[] }:aA) (-2:Int)).bind λx44=>
  if x44.2.2.e_ == 0 then
   (aZ x44.2.1.p_.aV x44.1.iH).bind λx52=>
   (aZ x44.2.1.p_.aV x44.2.1.f_).bind λx54=>
   (aS x44.2.1 x44.2.2 (x52.bN == x54.bN) 132 a2.fM).bind λx57=>
   some (({ x44.1 with fM:=a2.fM }:aA),x44.2.1,x57)
  else
   some (({ x44.1 with fM:=a2.fM }:aA),x44.2.1,x44.2.2)
 else
  (aZ a2.aL 0).bind λx83=>
  (hY n a0 y4 x83).bind λx84=>
  (aZ a0.p_.aV a0.f_).bind λx92=>
  (tZ x84.1.cJ x92.bN).bind λx95=>
  (aS a0 x84.2 x95 132 a2.fM).bind λx96=>
  some (({ a3 with dR:=([114,101,116,117,114,110]:bW),aL:=[x84.1] }:aA),a0,x96)
@[go_sem] def kL (dY:aE->aG->aB->Bool->Option (aA × aE × aG)) (a2:aB) (a3:Bool):Nat->(List aA)->Int->aE->aG->Option ((List aA) × aE × aG)
 | 0,_,_,_,_=>none
 | c9+1,v4,v5,v6,v7=>
   if decide (v5<(a2.aL.length:Int)) then
    (aZ a2.aL v5).bind λx14=>
    if v7.e_ != 0 then
     some (v4,v6,v7)
    else
     (if a3 then
        (dY v6 v7 x14 (v5 == (i64.wrap ((a2.aL.length:Int) - 1)))).bind λx28=>
        fC (v4.length+[x28.1].length<=1073741824) <|
        some ((v4++[x28.1]),x28.2.1,x28.2.2)
       else
        (dY v6 v7 x14 false).bind λx33=>
        fC (v4.length+[x33.1].length<=1073741824) <|
        some ((v4++[x33.1]),x33.2.1,x33.2.2)).bind λy26=>
     kL dY a2 a3 c9 y26.1 (i64.wrap (v5+1)) y26.2.1 y26.2.2
   else
    some (v4,v6,v7)
def nM (dY:aE->aG->aB->Bool->Option (aA × aE × aG)) (n:Nat) (a0:aE) (a1:aG) (a2:aB) (a3:Bool):Option ((List aA) × aE × aG):=
 (kL dY a2 a3 n [] 0 a0 a1).bind λy8=>
 fC (0<=(a0.bB.length:Int)/\(a0.bB.length:Int)<=(y8.2.1.bB.length:Int)) <|
 some (y8.1,({ y8.2.1 with bB:=(y8.2.1.bB.take (a0.bB.length)) }:aE),y8.2.2)
@[go_sem] def gN (cV:aE->aG->aB->Bool->Option ((List aA) × aE × aG)) (a2:aB):Nat->Int->aE->aG->aA->Option (aE × aG × aA)
 | 0,_,_,_,_=>none
 | c59+1,v54,v55,v56,v57=>
   if decide (v54<((a2.aL.drop 2).length:Int)) then
    (aZ (a2.aL.drop 2) v54).bind λx64=>
    (cV v55 v56 x64 false).bind λx70=>
    gN cV a2 c59 (i64.wrap (v54+1)) x70.2.1 x70.2.2 ({ v57 with eN:=x70.1 }:aA)
   else
    some (v55,v56,v57)
def kS (cV:aE->aG->aB->Bool->Option ((List aA) × aE × aG)) (pT:aE->aG->aB->aA->Option (aA × aE × aG)) (n:Nat) (a0:aE) (a1:aG) (a2:aB) (a3:Bool):Option (aA × aE × aG):=
 if a2.bK == 5 then
  (aZ a2.aL 0).bind λx5=>
  (eV n a0 a1 x5).bind λx6=>
  (eM n a0 x6.2 (aJ.mk a2.cZ 1 0) a2.fM).bind λx13=>
  some ((aA.mk ([108,101,116]:bW) x13.1 0 [x6.1] [] [] a2.fM),x13.2.1,x13.2.2)
 else
  if a2.bK == 6 then
   (pF n a0 a1 a2 (aA.mk [] (-1:Int) 0 [] [] [] a2.fM)).bind λx16=>
   some (x16.1,x16.2.1,x16.2.2)
  else
   if a2.bK == 7 then
    (xH (i64.wrap (min a2.jO 1025))).bind λx19=>
    (aS a0 a1 x19 136 a2.fM).bind λx20=>
    (eM n a0 x20 (aJ.mk a2.cZ 4 (i64.wrap a2.jO)) a2.fM).bind λx23=>
    some ((aA.mk ([97,114,114]:bW) x23.1 0 [] [] [] a2.fM),x23.2.1,x23.2.2)
   else
    if a2.bK == 8 then
     (qV n a0 a1 a2 (aA.mk [] (-1:Int) 0 [] [] [] a2.fM)).bind λx26=>
     some (x26.1,x26.2.1,x26.2.2)
    else
     if a2.bK == 9 then
      (qW n a0 a1 a2 (aA.mk [] (-1:Int) 0 [] [] [] a2.fM)).bind λx29=>
      some (x29.1,a0,x29.2)
     else
      if a2.bK == 10 then
       (jU n a0 a1 a2 (aA.mk [] (-1:Int) 0 [] [] [] a2.fM) (-1:Int)).bind λx32=>
       some (x32.1,x32.2.1,x32.2.2)
      else
       if a2.bK == 11 then
        (aZ a2.aL 0).bind λx35=>
        (eV n a0 a1 x35).bind λx36=>
        (aZ a2.aL 1).bind λx43=>
        (cV a0 x36.2 x43 false).bind λx44=>
        fC ((0:Int)<=2/\2<=(a2.aL.length:Int)) <|
        (gN cV a2 n 0 x44.2.1 x44.2.2 (aA.mk ([105,102]:bW) (-1:Int) 0 [x36.1] x44.1 [] a2.fM)).bind λy58=>
        some (y58.2.2,y58.1,y58.2.1)
       else
        if a2.bK == 12 then
         (pT a0 a1 a2 (aA.mk [] (-1:Int) 0 [] [] [] a2.fM)).bind λx73=>
         some (x73.1,x73.2.1,x73.2.2)
        else
         if a2.bK == 13 then
          (qD n a0 a1 a2 (aA.mk [] (-1:Int) 0 [] [] [] a2.fM) a3).bind λx76=>
          some (x76.1,x76.2.1,x76.2.2)
         else
          some ((aA.mk [] (-1:Int) 0 [] [] [] a2.fM),a0,a1)
def oH (cV:aE->aG->aB->Bool->Option ((List aA) × aE × aG)) (n:Nat) (a0:aE) (a1:aG) (a2:aB) (a3:aA):Option (aA × aE × aG):=
 (aZ a2.aL 0).bind λx4=>
 (eV n a0 a1 x4).bind λx5=>
 (aZ a2.aL 1).bind λx6=>
 (eV n a0 x5.2 x6).bind λx7=>
 (eM n a0 x7.2 (aJ.mk a2.cZ 1 0) a2.fM).bind λx21=>
 (aZ a2.aL 2).bind λx23=>
 (cV x21.2.1 x21.2.2 x23 false).bind λx24=>
 fC (0<=(min (a0.bB.length:Int) (x24.2.1.bB.length:Int))/\(min (a0.bB.length:Int) (x24.2.1.bB.length:Int))<=(x24.2.1.bB.length:Int)) <|
 some (({ a3 with dR:=([102,111,114]:bW),eB:=x21.1,aL:=[x5.1,x7.1],bH:=x24.1 }:aA),({ x24.2.1 with bB:=(x24.2.1.bB.take ((min (a0.bB.length:Int) (x24.2.1.bB.length:Int)).toNat)) }:aE),x24.2.2)
def eI:Nat->(aE->aG->aB->Bool->Option ((List aA) × aE × aG)) × (aE->aG->aB->Bool->Option (aA × aE × aG)) × (aE->aG->aB->aA->Option (aA × aE × aG))
 | 0=>(λ_ _ _ _=>none,λ_ _ _ _=>none,λ_ _ _ _=>none)
 | n+1=>(nM (eI n).2.1 n,kS (eI n).1 (eI n).2.2 n,oH (eI n).1 n)
def uL (n:Nat):aE->aG->aB->Bool->Option ((List aA) × aE × aG):=(eI n).1
def CG (n:Nat):aE->aG->aB->Bool->Option (aA × aE × aG):=(eI n).2.1
def Gr (n:Nat):aE->aG->aB->aA->Option (aA × aE × aG):=(eI n).2.2
def vZ (a0:aB):Option Bool:=
 (if decide (0<(a0.aL.length:Int)) then
    (aZ a0.aL (i64.wrap ((a0.aL.length:Int) - 1))).bind λx4=>
    some (x4.bK == 13)
   else
    some false).bind λy2=>
 some y2
@[go_sem] def jM (n:Nat) (a3:aB):Nat->Int->aE->aG->Option (aE × aG)
 | 0,_,_,_=>none
 | c11+1,v7,v8,v9=>
   if decide (v7<((a3.aL.drop (max (i64.wrap ((a3.aL.length:Int) - 1)) 0).toNat).length:Int)) then
    (aZ (a3.aL.drop (max (i64.wrap ((a3.aL.length:Int) - 1)) 0).toNat) v7).bind λx16=>
    (aZ v8.p_.aV v8.f_).bind λx22=>
    (uL n v8 v9 x16 true).bind λx25=>
    (aZ x25.2.1.p_.aV v8.f_).bind λx26=>
    ((aZ (x25.2.1.p_.aV.set v8.f_.toNat { x26 with bH:=x25.1 }) v8.f_).bind λx56=>
      if x56.bN == 0 then
       (aS ({ x25.2.1 with p_:=⟨(x25.2.1.p_.aV.set v8.f_.toNat { x26 with bH:=x25.1 })⟩ }:aE) x25.2.2 true 135 a3.fM).bind λx71=>
       some x71
      else
       (vZ x16).bind λx73=>
       (aS ({ x25.2.1 with p_:=⟨(x25.2.1.p_.aV.set v8.f_.toNat { x26 with bH:=x25.1 })⟩ }:aE) x25.2.2 x73 135 a3.fM).bind λx74=>
       some x74).bind λy55=>
    jM n a3 c11 (i64.wrap (v7+1)) ({ x25.2.1 with p_:=⟨(x25.2.1.p_.aV.set v8.f_.toNat { x26 with bH:=x25.1 })⟩ }:aE) y55
   else
    some (v8,v9)
def lN (n:Nat) (a0:aE) (a1:aG) (a2:Int) (a3:aB):Option (aE × aG):=
 (mL n a0 a1 a2).bind λx2=>
 fC (0<=(max (i64.wrap ((a3.aL.length:Int) - 1)) 0)/\(max (i64.wrap ((a3.aL.length:Int) - 1)) 0)<=(a3.aL.length:Int)) <|
 (jM n a3 n 0 x2.1 x2.2).bind λy10=>
 some (y10.1,y10.2)
def wW (rec_:Int->List Int->Option (Bool × List Int)) (to:Int):List Int->List Int->Option (Bool × List Int)
 | [],seen=>some (false,seen)
 | k::ks,seen=>
   if k == to then some (true,seen)
   else
    (aZ seen k).bind λs=>
    if i64.wrap (s+1) == 1 then
     (rec_ k (seen.set k.toNat (i64.wrap (s+1)))).bind λr=>
     if r.1=true then some (true,r.2) else wW rec_ to ks r.2
    else wW rec_ to ks (seen.set k.toNat (i64.wrap (s+1)))
def kX:Nat->aE->Int->Int->List Int->Option (Bool × List Int)
 | 0,_,_,_,_=>none
 | n+1,c,fr,to,seen=>(aZ c.bX fr).bind λl=>fC (l.length<=1073741824) <| wW (λk s=>kX n c k to s) to l seen
abbrev Look:=Int->aB->aE->aG->Option (aE × aG)
def tX (look:Look):List aB->Nat->aE->aG->Option (aE × aG)
 | [],_,c,w=>some (c,w)
 | f::l,i,c,w=>if w.e_ == 0 then (look i f c w).bind λr=>tX look l (i+1) r.1 r.2 else tX look l (i+1) c w
def xI (nodes:List aB):List Look->aE->aG->Option (aE × aG)
 | [],c,w=>some (c,w)
 | look::ls,c,w=>(tX look nodes 0 c w).bind λr=>xI nodes ls r.1 r.2
def Ae (n len:Nat) (c:aE):List aB->Nat->aG->Option aG
 | [],_,w=>some w
 | f::l,i,w=>if w.e_ == 0 then (kX n c i i (List.replicate len 0)).bind λr=>(aS c w (!r.1) 134 f.fM).bind λw'=>Ae n len c l (i+1) w' else Ae n len c l (i+1) w
def AO (n:Nat) (a0:bW):Option (aW × Int × Int):=
 (Ay n a0).bind λp=>
 if p.2.1 != 0 then some (⟨[]⟩,p.2.1,p.2.2)
 else
  (pD n aE.Z ⟨0,0⟩ p.1).bind λa=>
  fC (p.1.aL.length<=1073741824) <|
  (xI p.1.aL [λi f c w=>lL n c w i f,λi f c w=>lN n c w i f] a.1 a.2).bind λb=>
  (Ae n p.1.aL.length b.1 p.1.aL 0 b.2).bind λw=>
  if w.e_ != 0 then some (⟨[]⟩,w.e_,w.Dr) else some (b.1.p_,0,0)
structure aI where
 p_:aW
 f_:aQ
 fW:Int
 e_:Int
def dT (a0:aI):Option aI:=
 if decide (16384<(i64.wrap (a0.fW+1))) then
  some ({ a0 with fW:=(i64.wrap (a0.fW+1)),e_:=161 }:aI)
 else
  some ({ a0 with fW:=(i64.wrap (a0.fW+1)) }:aI)
def yI (a0:Int) (a1:(List Int)):Option Int:=
 (if decide (a0<0) then
    some true
   else
    some (decide ((a1.length:Int)<=a0))).bind λy1=>
 if y1 then
  some a0
 else
  (aZ a1 a0).bind λx7=>
  some x7
def uY (uW:(List aD)->(List Int)->Option (List aD)) (n:Nat) (a0:aD) (a1:(List Int)):Option aD:=
 (yI a0.eB a1).bind λx3=>
 (uW a0.aL a1).bind λx5=>
 some ({ a0 with eB:=x3,aL:=x5 }:aD)
@[go_sem] def uI (rO:aD->(List Int)->Option aD) (a0:(List aD)) (a1:(List Int)):Nat->(List aD)->Int->Option (List aD)
 | 0,_,_=>none
 | c5+1,v2,v3=>
   if decide (v3<(a0.length:Int)) then
    (aZ a0 v3).bind λx10=>
    (rO x10 a1).bind λx16=>
    fC (v2.length+[x16].length<=1073741824) <|
    uI rO a0 a1 c5 (v2++[x16]) (i64.wrap (v3+1))
   else
    some v2
def tT (rO:aD->(List Int)->Option aD) (n:Nat) (a0:(List aD)) (a1:(List Int)):Option (List aD):=
 (uI rO a0 a1 n [] 0).bind λy4=>
 some y4
def An:Nat->(aD->(List Int)->Option aD) × ((List aD)->(List Int)->Option (List aD))
 | 0=>(λ_ _=>none,λ_ _=>none)
 | n+1=>(uY (An n).2 n,tT (An n).1 n)
def rT (n:Nat):aD->(List Int)->Option aD:=(An n).1
def tU (n:Nat):(List aD)->(List Int)->Option (List aD):=(An n).2
def dS (a0:aI) (a1:aJ):Option (Int × aI):=
 if decide (4096<=(a0.f_.aR.length:Int)) then
  some (0,({ a0 with e_:=161 }:aI))
 else
  fC (a0.f_.aR.length+[a1].length<=1073741824) <|
  some ((i64.wrap (((a0.f_.aR++[a1]).length:Int) - 1)),({ a0 with f_:=({ a0.f_ with aR:=(a0.f_.aR++[a1]) }:aQ) }:aI))
@[go_sem] def eS (n:Nat) (a1:aA) (a3:(List Int)) (a2:aQ):Nat->(List aA)->(List Int)->Int->aI->Option ((List aA) × (List Int) × aI)
 | 0,_,_,_,_=>none
 | c9+1,v4,v5,v6,v7=>
   if decide (v6<(a1.aL.length:Int)) then
    ((aZ a1.aL v6).bind λx15=>
      if x15.cJ == 4 then
       (yI x15.eB a3).bind λx22=>
       fC (v5.length+[x22].length<=1073741824) <|
       some (v4,(v5++[x22]),v7)
      else
       (aZ a2.aR v6).bind λx29=>
       if x29.bK == 1 then
        (dT v7).bind λx35=>
        (dS x35 x29).bind λx37=>
        fC (v5.length+[x37.1].length<=1073741824) <|
        (rT n x15 a3).bind λx44=>
        fC (v4.length+[(aA.mk ([108,101,116]:bW) x37.1 0 [x44] [] [] a1.fM)].length<=1073741824) <|
        some ((v4++[(aA.mk ([108,101,116]:bW) x37.1 0 [x44] [] [] a1.fM)]),(v5++[x37.1]),x37.2)
       else
        (dT v7).bind λx49=>
        (dS x49 x29).bind λx51=>
        fC (v5.length+[x51.1].length<=1073741824) <|
        (rT n x15 a3).bind λx58=>
        fC (v4.length+[(aA.mk ([118,97,114]:bW) x51.1 0 [x58] [] [] a1.fM)].length<=1073741824) <|
        some ((v4++[(aA.mk ([118,97,114]:bW) x51.1 0 [x58] [] [] a1.fM)]),(v5++[x51.1]),x51.2)).bind λy14=>
    eS n a1 a3 a2 c9 y14.1 y14.2.1 (i64.wrap (v6+1)) y14.2.2
   else
    some (v4,v5,v7)
def mK (n:Nat) (a0:aI) (a1:aA) (a2:aQ) (a3:(List Int)):Option ((List aA) × (List Int) × aI):=
 (eS n a1 a3 a2 n [] [] 0 a0).bind λy8=>
 some (y8.1,y8.2.1,y8.2.2)
def jX (a0:aI) (a1:aA) (a2:(List Int)) (a3:aA):Option aA:=
 (aZ a0.p_.aV a1.iH).bind λx4=>
 if a1.eB == (-2:Int) then
  if decide (a3.fM<0) then
   some ({ a3 with fM:=a1.fM }:aA)
  else
   some a3
 else
  if a1.eB == (-1:Int) then
   some (aA.mk ([118,97,114]:bW) (-1:Int) x4.bN [] [] [] a1.fM)
  else
   (yI a1.eB a2).bind λx12=>
   some (aA.mk ([115,101,116]:bW) x12 0 [] [] [] a1.fM)
def eQ (a0:aI) (a1:aD) (a2:aA):Option (aA × aI):=
 if decide (a2.dR=([118,97,114]:bW)) then
  (dS a0 (aJ.mk [] a2.iH 0)).bind λx5=>
  some (({ a2 with eB:=x5.1,iH:=0,aL:=[a1] }:aA),x5.2)
 else
  some (({ a2 with iH:=0,aL:=[a1] }:aA),a0)
@[go_sem] def dJ (eK:aI->aA->(List Int)->aA->Option ((List aA) × aI)) (a1:(List aA)) (a2:(List Int)) (a3:aA):Nat->(List aA)->Int->aI->Option (((List aA) × aI) ⊕ ((List aA) × aI))
 | 0,_,_,_=>none
 | c7+1,v3,v4,v5=>
   if decide (v4<(a1.length:Int)) then
    (aZ a1 v4).bind λx12=>
    if v5.e_ != 0 then
     some (.inr ([],v5))
    else
     (eK v5 x12 a2 a3).bind λx19=>
     fC (v3.length+x19.1.length<=1073741824) <|
     dJ eK a1 a2 a3 c7 (v3++x19.1) (i64.wrap (v4+1)) x19.2
   else
    some (.inl (v3,v5))
def fU (eK:aI->aA->(List Int)->aA->Option ((List aA) × aI)) (n:Nat) (a0:aI) (a1:(List aA)) (a2:(List Int)) (a3:aA):Option ((List aA) × aI):=
 (dJ eK a1 a2 a3 n [] 0 a0).bind λy6=>
 y6.elim (λy6a=>
  some (y6a.1,y6a.2)) (λy6a=>
  some y6a)
def eD (oT:aI->aA->(List Int)->aA->Option ((List aA) × aI)) (eC:aI->(List aA)->(List Int)->aA->Option ((List aA) × aI)) (n:Nat) (a0:aI) (a1:aA) (a2:(List Int)) (a3:aA):Option ((List aA) × aI):=
 if decide (a1.dR=([99,97,108,108]:bW)) then
  (oT a0 a1 a2 a3).bind λx4=>
  some (x4.1,x4.2)
 else
  (dT a0).bind λx6=>
  if decide (a1.dR=([114,101,116,117,114,110]:bW)) then
   (aZ a1.aL 0).bind λx9=>
   (rT n x9 a2).bind λx10=>
   if decide (a3.fM<0) then
    (eQ x6 x10 ({ a3 with fM:=a1.fM }:aA)).bind λx19=>
    some ([x19.1],x19.2)
   else
    (eQ x6 x10 a3).bind λx21=>
    some ([x21.1],x21.2)
  else
   (yI a1.eB a2).bind λx23=>
   (tU n a1.aL a2).bind λx24=>
   (eC x6 a1.bH a2 a3).bind λx27=>
   (eC x27.2 a1.eN a2 a3).bind λx28=>
   some ([({ a1 with eB:=x23,aL:=x24,bH:=x27.1,eN:=x28.1 }:aA)],x28.2)
@[go_sem] def eR (x5:aQ):Nat->(List Int)->Int->aI->Option ((List Int) × aI)
 | 0,_,_,_=>none
 | c20+1,v16,v17,v18=>
   if decide (v17<((x5.aR.drop x5.aT.toNat).length:Int)) then
    (aZ (x5.aR.drop x5.aT.toNat) v17).bind λx25=>
    (dS v18 x25).bind λx31=>
    fC (v16.length+[x31.1].length<=1073741824) <|
    eR x5 c20 (v16++[x31.1]) (i64.wrap (v17+1)) x31.2
   else
    some (v16,v18)
def gE (eC:aI->(List aA)->(List Int)->aA->Option ((List aA) × aI)) (n:Nat) (a0:aI) (a1:aA) (a2:(List Int)) (a3:aA):Option ((List aA) × aI):=
 (dT a0).bind λx3=>
 (aZ x3.p_.aV a1.iH).bind λx5=>
 (mK n x3 a1 x5 a2).bind λx11=>
 fC (0<=x5.aT/\x5.aT<=(x5.aR.length:Int)) <|
 (eR x5 n x11.2.1 0 x11.2.2).bind λy19=>
 if y19.2.e_ != 0 then
  some ([],y19.2)
 else
  (jX y19.2 a1 a2 a3).bind λx48=>
  (eC y19.2 x5.bH y19.1 x48).bind λx49=>
  fC (x11.1.length+x49.1.length<=1073741824) <|
  some ((x11.1++x49.1),x49.2)
def iF:Nat->(aI->(List aA)->(List Int)->aA->Option ((List aA) × aI)) × (aI->aA->(List Int)->aA->Option ((List aA) × aI)) × (aI->aA->(List Int)->aA->Option ((List aA) × aI))
 | 0=>(λ_ _ _ _=>none,λ_ _ _ _=>none,λ_ _ _ _=>none)
 | n+1=>(fU (iF n).2.1 n,eD (iF n).2.2 (iF n).1 n,gE (iF n).1 n)
def eE (n:Nat):aI->(List aA)->(List Int)->aA->Option ((List aA) × aI):=(iF n).1
def gB (n:Nat):aI->aA->(List Int)->aA->Option ((List aA) × aI):=(iF n).2.1
def kO (n:Nat):aI->aA->(List Int)->aA->Option ((List aA) × aI):=(iF n).2.2
def vF (n:Nat) (a0:aW) (a1:Int):Option (aQ × Int):=
 (if decide (a1<0) then
    some true
   else
    some (decide ((a0.aV.length:Int)<=a1))).bind λy3=>
 if y3 then
  some ((aQ.mk [] false 0 0 [] []),11)
 else
  (aZ a0.aV a1).bind λx9=>
  fC (x9.aR.length<=1073741824) <|
  (eE n (aI.mk a0 x9 0 0) x9.bH [] (aA.mk ([114,101,116,117,114,110]:bW) (-1:Int) 0 [] [] [] (-1:Int))).bind λx17=>
  if x17.2.e_ != 0 then
   some ((aQ.mk [] false 0 0 [] []),x17.2.e_)
  else
   some (({ x17.2.f_ with bH:=x17.1 }:aQ),0)
structure aH where
 dR:Int
 N_:Int
 aL:(List aH)
mutual
def aH.C:aH->List V
 | ⟨a0,a1,a2⟩=>[.lit (.int .i64 a0),.lit (.int .u32 a1),.list .none (aH.CL a2)]
def aH.CL:List aH->List (List V)
 | []=>[]
 | x::l=>aH.C x::aH.CL l
end
theorem aH.CL_eq (l:List aH):aH.CL l=l.map aH.C:=by
 induction l with
 | nil=>rfl
 | cons x l ih=>rw [aH.CL,ih];rfl
@[go_sem] theorem aH.C_eq (x:aH):aH.C x=[.lit (.int .i64 x.dR),.lit (.int .u32 x.N_),.list .none (x.aL.map aH.C)]:=by
 cases x;simp only [aH.C,aH.CL_eq]
def aH.Z:aH:=⟨0,0,[]⟩
structure bE where
 aX:(List aH)
 gS:(List Int)
 oO:(List Int)
 jQ:(List Int)
def bE.C (x:bE):List V:=[.list .none (x.aX.map aH.C),.list .none (x.gS.map (cI .i64)),.list .none (x.oO.map (cI .u32)),.list .none (x.jQ.map (cI .u32))]
@[go_sem] theorem bE.C_eq (x:bE):bE.C x=[.list .none (x.aX.map aH.C),.list .none (x.gS.map (cI .i64)),.list .none (x.oO.map (cI .u32)),.list .none (x.jQ.map (cI .u32))]:=rI rfl
structure aN where
 c_:bE
 e_:Int
structure aM where
 dR:Int
 jO:Int
 Ll:Int
def aM.C (x:aM):List V:=[.lit (.int .i64 x.dR),.lit (.int .u32 x.jO),.lit (.int .i64 x.Ll)]
@[go_sem] theorem aM.C_eq (x:aM):aM.C x=[.lit (.int .i64 x.dR),.lit (.int .u32 x.jO),.lit (.int .i64 x.Ll)]:=rI rfl
structure aP where
 cQ:(List (List aM))
 fS:(List Int)
 cB:(List Int)
def mZ (n:Nat) (a0:bW) (a1:Int):Option (aQ × aW × Bool):=
 if decide (2000<(a0.length:Int)) then
  some ((aQ.mk [] false 0 0 [] []),(aW.mk []),false)
 else
  (AO n a0).bind λx4=>
  if x4.2.1 != 0 then
   some ((aQ.mk [] false 0 0 [] []),(aW.mk []),false)
  else
   (vF n x4.1 a1).bind λx8=>
   some (x8.1,x4.1,(x8.2 == 0))
@[go_sem] def yO (kC:(List aA)->Option Int) (a0:(List aA)):Nat->Int->Int->Option Int
 | 0,_,_=>none
 | c5+1,v2,v3=>
   if decide (v3<(a0.length:Int)) then
    ((aZ a0 v3).bind λx11=>
      if decide (x11.dR=([102,111,114]:bW)) then
       (kC x11.bH).bind λx18=>
       (kC x11.eN).bind λx19=>
       some (i64.wrap ((i64.wrap (v2+1))+(i64.wrap (x18+x19))))
      else
       (kC x11.bH).bind λx22=>
       (kC x11.eN).bind λx23=>
       some (i64.wrap (v2+(i64.wrap (x22+x23))))).bind λy10=>
    yO kC a0 c5 y10 (i64.wrap (v3+1))
   else
    some v2
def vY (kC:(List aA)->Option Int) (n:Nat) (a0:(List aA)):Option Int:=
 (yO kC a0 n 0 0).bind λy4=>
 some y4
def xF:Nat->(List aA)->Option Int
 | 0=>λ_=>none
 | n+1=>vY (xF n) n
def tM (a0:List Int) (a1:Int):Option (List Int):=if a0.length=1/\a1=4 then some (a0++a0++a0++a0) else none
def EV (a0:Int):Option aH:=
 some (aH.mk 2 (u32.wrap a0) [])
@[go_sem] def Ai (qA:aH->Option Int) (a0:aH):Nat->Int->Int->Option Int
 | 0,_,_=>none
 | c6+1,v3,v4=>
   if decide (v4<(a0.aL.length:Int)) then
    (aZ a0.aL v4).bind λx11=>
    (qA x11).bind λx17=>
    Ai qA a0 c6 (i64.wrap (v3+x17)) (i64.wrap (v4+1))
   else
    some v3
def xR (qA:aH->Option Int) (n:Nat) (a0:aH):Option Int:=
 (Ai qA a0 n 1 0).bind λy5=>
 some y5
def wG:Nat->aH->Option Int
 | 0=>λ_=>none
 | n+1=>xR (wG n) n
@[go_sem] def iN (gW:bE->aD->Option Int) (a1:aD) (a0:bE):Nat->Int->Int->Option Int
 | 0,_,_=>none
 | c18+1,v15,v16=>
   if decide (v16<(a1.aL.length:Int)) then
    (aZ a1.aL v16).bind λx23=>
    (gW a0 x23).bind λx29=>
    iN gW a1 a0 c18 (i64.wrap (v15+x29)) (i64.wrap (v16+1))
   else
    some v15
def eW (gW:bE->aD->Option Int) (n:Nat) (a0:bE) (a1:aD):Option Int:=
 if decide (a1.dR=([118,97,114]:bW)) then
  (aZ a0.aX a1.eB).bind λx4=>
  (wG n x4).bind λx5=>
  some x5
 else
  (iN gW a1 a0 n 1 0).bind λy17=>
  some y17
def jA:Nat->bE->aD->Option Int
 | 0=>λ_ _=>none
 | n+1=>eW (jA n) n
def wQ (a0:aH) (a1:(List Int)):Option Int:=
 if a0.dR == 1 then
  some a0.N_
 else
  if decide ((i64.wrap a0.N_)<(a1.length:Int)) then
   (aZ a1 a0.N_).bind λx4=>
   some x4
  else
   some 0
def uV (a0:Bool):Option Int:=
 if a0 then
  some 1
 else
  some 0
def At (a0:Int) (a1:Int):Option Int:=
 if a0 == 3 then
  some (QG .u32 a1)
 else
  some (u32.wrap (0 - a1))
def iZ (a0:Int) (a1:Int):Option Int:=
 fC (0<=(sJ .u64 (u64.wrap a1) 31)) <|
 fC (0<=(u64.wrap (32 - (sJ .u64 (u64.wrap a1) 31)))) <|
 some (Mn .u32 (Sy .u32 a0 (sJ .u64 (u64.wrap a1) 31)) (Hi .u32 a0 (u64.wrap (32 - (sJ .u64 (u64.wrap a1) 31)))))
def mY (a0:Int) (a1:Int) (a2:Int):Option Int:=
 if a0 == 5 then
  some (Mn .u32 a1 a2)
 else
  if a0 == 6 then
   some (IB .u32 a1 a2)
  else
   if a0 == 7 then
    some (sJ .u32 a1 a2)
   else
    if a0 == 10 then
     fC (0<=(sJ .u32 a2 31)) <|
     some (Sy .u32 a1 (sJ .u32 a2 31))
    else
     if a0 == 11 then
      fC (0<=(sJ .u32 a2 31)) <|
      some (Hi .u32 a1 (sJ .u32 a2 31))
     else
      (iZ a1 (i64.wrap (sJ .u32 a2 31))).bind λx8=>
      some x8
def fZ (a0:Int) (a1:Int) (a2:Int):Option (Int × Bool):=
 if a0 == 8 then
  (uV (a1 == a2)).bind λx2=>
  some (x2,true)
 else
  if a0 == 9 then
   (uV (decide (a1<a2))).bind λx5=>
   some (x5,true)
  else
   if a0 == 13 then
    some ((u32.wrap (a1+a2)),true)
   else
    if a0 == 14 then
     some ((u32.wrap (a1 - a2)),true)
    else
     if a0 == 15 then
      some ((u32.wrap (a1*a2)),true)
     else
      if a0 == 16 then
       if a2 == 0 then
        some (0,false)
       else
        fC (a2 ≠ 0) <|
        some ((u32.wrap (a1.tdiv a2)),true)
      else
       if a0 == 17 then
        if a2 == 0 then
         some (0,false)
        else
         fC (a2 ≠ 0) <|
         some ((a1.tmod a2),true)
       else
        (mY a0 a1 a2).bind λx16=>
        some (x16,true)
def lC (uH:aH->(List Int)->Option (Int × Bool)) (n:Nat) (a0:aH) (a1:(List Int)):Option (Int × Bool):=
 if (a0.aL.length:Int) == 0 then
  (wQ a0 a1).bind λx3=>
  some (x3,true)
 else
  (aZ a0.aL 0).bind λx5=>
  (uH x5 a1).bind λx6=>
  (if !x6.2 then
     some true
    else
     some ((a0.aL.length:Int) == 1)).bind λy13=>
  if y13 then
   (uV x6.2).bind λx19=>
   (At a0.dR x6.1).bind λx20=>
   some ((u32.wrap (x19*x20)),x6.2)
  else
   (aZ a0.aL 1).bind λx23=>
   (uH x23 a1).bind λx24=>
   if !x24.2 then
    some (0,false)
   else
    (fZ a0.dR x6.1 x24.1).bind λx32=>
    some (x32.1,x32.2)
def jC:Nat->aH->(List Int)->Option (Int × Bool)
 | 0=>λ_ _=>none
 | n+1=>lC (jC n) n
def Ah (a0:Int):Option aH:=
 some (aH.mk 1 a0 [])
@[go_sem] def iI (rN:aH->Option aH) (a0:aH):Nat->Bool->Int->aH->Option (Bool × aH)
 | 0,_,_,_=>none
 | c9+1,v5,v6,v7=>
   if decide (v6<(a0.aL.length:Int)) then
    (aZ a0.aL v6).bind λx14=>
    (rN x14).bind λx20=>
    fC (v7.aL.length+[x20].length<=1073741824) <|
    (if v5 then
       some (x20.dR == 1)
      else
       some false).bind λy26=>
    iI rN a0 c9 y26 (i64.wrap (v6+1)) ({ v7 with aL:=(v7.aL++[x20]) }:aH)
   else
    some (v5,v7)
def jT (rN:aH->Option aH) (n:Nat) (a0:aH):Option aH:=
 (iI rN a0 n (a0.dR != 2) 0 (aH.mk a0.dR a0.N_ [])).bind λy8=>
 if !y8.1 then
  some y8.2
 else
  (jC n y8.2 []).bind λx38=>
  if x38.2=true then
   (Ah x38.1).bind λx41=>
   some x41
  else
   some y8.2
def eA:Nat->aH->Option aH
 | 0=>λ_=>none
 | n+1=>jT (eA n) n
@[go_sem] def Bt (a0:bW):Nat->Int->Option (Unit ⊕ Int)
 | 0,_=>none
 | c4+1,v2=>
   if decide (v2<15) then
    (aZ eF v2).bind λx9=>
    if decide (x9.Jg=a0) then
     some (.inr x9.op_)
    else
     Bt a0 c4 (i64.wrap (v2+1))
   else
    some (.inl ())
def BC (n:Nat) (a0:bW):Option Int:=
 (Bt a0 n 0).bind λy3=>
 y3.elim (λy3a=>
  some 0) (λy3a=>
  some y3a)
@[go_sem] def kA (iK:bE->aD->Option aH) (a1:aD) (a0:bE):Nat->Int->aH->Option aH
 | 0,_,_=>none
 | c23+1,v20,v21=>
   if decide (v20<(a1.aL.length:Int)) then
    (aZ a1.aL v20).bind λx28=>
    (iK a0 x28).bind λx34=>
    fC (v21.aL.length+[x34].length<=1073741824) <|
    kA iK a1 a0 c23 (i64.wrap (v20+1)) ({ v21 with aL:=(v21.aL++[x34]) }:aH)
   else
    some v21
def fK (iK:bE->aD->Option aH) (n:Nat) (a0:bE) (a1:aD):Option aH:=
 if decide (a1.dR=([110,117,109]:bW)) then
  (Ah a1.N_).bind λx5=>
  some x5
 else
  if decide (a1.dR=([118,97,114]:bW)) then
   (aZ a0.aX a1.eB).bind λx8=>
   some x8
  else
   (BC n a1.dR).bind λx16=>
   (kA iK a1 a0 n 0 (aH.mk x16 0 [])).bind λy22=>
   some y22
def jI:Nat->bE->aD->Option aH
 | 0=>λ_ _=>none
 | n+1=>fK (jI n) n
def pL (n:Nat) (a0:bE) (a1:aD):Option (aH × Int):=
 if a1.cJ != 1 then
  some ((aH.mk 0 0 []),132)
 else
  (jA n a0 a1).bind λx5=>
  if decide (2000<x5) then
   some ((aH.mk 0 0 []),161)
  else
   (jI n a0 a1).bind λx8=>
   (eA n x8).bind λx9=>
   some (x9,0)
def lI (n:Nat) (a0:aN) (a1:aD):Option (aH × aN):=
 (pL n a0.c_ a1).bind λx3=>
 if a0.e_ == 0 then
  some (x3.1,({ a0 with e_:=x3.2 }:aN))
 else
  some (x3.1,a0)
@[go_sem] def qM (n:Nat) (a1:aD):Nat->Int->aN->Option aN
 | 0,_,_=>none
 | c30+1,v27,v28=>
   if decide (v27<(a1.aL.length:Int)) then
    (aZ a1.aL v27).bind λx35=>
    (lI n v28 x35).bind λx41=>
    qM n a1 c30 (i64.wrap (v27+1)) x41.2
   else
    some v28
@[go_sem] def qN (gV:aN->aD->Option aN) (a1:aD):Nat->Int->aN->Option aN
 | 0,_,_=>none
 | c6+1,v3,v4=>
   if decide (v3<(a1.aL.length:Int)) then
    (aZ a1.aL v3).bind λx11=>
    (gV v4 x11).bind λx17=>
    qN gV a1 c6 (i64.wrap (v3+1)) x17
   else
    some v4
def oE (gV:aN->aD->Option aN) (n:Nat) (a0:aN) (a1:aD):Option aN:=
 (qN gV a1 n 0 a0).bind λy5=>
 (if decide (a1.dR=([105,110,100,101,120]:bW)) then
    some true
   else
    if decide (a1.dR=([47]:bW)) then
     some true
    else
     some (decide (a1.dR=([37]:bW)))).bind λy43=>
 if y43 then
  (qM n a1 n 0 y5).bind λy53=>
  some y53
 else
  some y5
def lK:Nat->aN->aD->Option aN
 | 0=>λ_ _=>none
 | n+1=>oE (lK n) n
def Ag (a0:(List Int)) (a1:Int) (a2:Int):Option Int:=
 if decide ((i64.wrap a1)<(a0.length:Int)) then
  (aZ a0 a1).bind λx2=>
  some x2
 else
  some a2
def qT (a0:Int) (a1:Int) (a2:Int):Option (Int × Int):=
 some ((u32.wrap (u64.wrap ((u64.wrap ((u64.wrap a0)+(u64.wrap a1)))+(u64.wrap a2)))),(u32.wrap (Hi .u64 (u64.wrap ((u64.wrap ((u64.wrap a0)+(u64.wrap a1)))+(u64.wrap a2))) 32)))
def BK (a0:bF) (a1:bF):Option bF:=
 (qT a0.fS a1.fS 0).bind λx4=>
 (qT a0.cB a1.cB 0).bind λx6=>
 if x6.2 == 1 then
  some (bF.mk 0 4294967295)
 else
  some (bF.mk x4.1 x6.1)
def sK (a0:Int) (a1:Int):Option (Int × Int):=
 some ((u32.wrap (Hi .u64 (u64.wrap ((u64.wrap a0)*(u64.wrap a1))) 32)),(u32.wrap (u64.wrap ((u64.wrap a0)*(u64.wrap a1)))))
def tR (a0:bF) (a1:bF):Option bF:=
 (sK a0.cB a1.cB).bind λx4=>
 if decide (0<x4.1) then
  some (bF.mk 0 4294967295)
 else
  some (bF.mk (u32.wrap (a0.fS*a1.fS)) x4.2)
def uU (a0:Int) (a1:bF) (a2:bF):Option bF:=
 if a0 == 8 then
  some (bF.mk 0 1)
 else
  if a0 == 9 then
   some (bF.mk 0 1)
  else
   if a0 == 7 then
    some (bF.mk 0 (min a1.cB a2.cB))
   else
    if a0 == 13 then
     (BK a1 a2).bind λx8=>
     some x8
    else
     if a0 == 14 then
      if decide (a2.cB<=a1.fS) then
       some (bF.mk (u32.wrap (a1.fS - a2.cB)) (u32.wrap (a1.cB - a2.fS)))
      else
       some (bF.mk 0 4294967295)
     else
      if a0 == 15 then
       (tR a1 a2).bind λx13=>
       some x13
      else
       if a0 == 16 then
        fC ((max a2.cB 1) ≠ 0) <|
        fC ((max a2.fS 1) ≠ 0) <|
        some (bF.mk (u32.wrap (a1.fS.tdiv (max a2.cB 1))) (u32.wrap (a1.cB.tdiv (max a2.fS 1))))
       else
        if a0 == 17 then
         some (bF.mk 0 (min a1.cB (u32.wrap ((max a2.cB 1) - 1))))
        else
         if a0 == 11 then
          some (bF.mk 0 a1.cB)
         else
          some (bF.mk 0 4294967295)
def lS (tC:aH->(List Int)->(List Int)->Option bF) (n:Nat) (a0:aH) (a1:(List Int)) (a2:(List Int)):Option bF:=
 if a0.dR == 1 then
  some (bF.mk a0.N_ a0.N_)
 else
  if a0.dR == 2 then
   (Ag a1 a0.N_ 0).bind λx5=>
   (Ag a2 a0.N_ 4294967295).bind λx6=>
   some (bF.mk x5 x6)
  else
   if a0.dR == 3 then
    some (bF.mk 0 4294967295)
   else
    if a0.dR == 4 then
     some (bF.mk 0 4294967295)
    else
     (aZ a0.aL 0).bind λx11=>
     (tC x11 a1 a2).bind λx12=>
     (aZ a0.aL 1).bind λx13=>
     (tC x13 a1 a2).bind λx14=>
     (uU a0.dR x12 x14).bind λx15=>
     some x15
def pJ:Nat->aH->(List Int)->(List Int)->Option bF
 | 0=>λ_ _ _=>none
 | n+1=>lS (pJ n) n
def zU (n:Nat) (a0:aH) (a1:(List Int)) (a2:(List Int)):Option (Int × Int):=
 (pJ n a0 a1 a2).bind λx2=>
 some (x2.fS,x2.cB)
def eG (n:Nat) (a0:bE) (a1:aD):Option (Int × Int):=
 (pL n a0 a1).bind λx3=>
 if x3.2 != 0 then
  some (0,4294967295)
 else
  (zU n x3.1 a0.oO a0.jQ).bind λx7=>
  some (x7.1,x7.2)
def lJ (n:Nat) (a0:aN) (a1:aA):Option aN:=
 (aZ a1.aL 0).bind λx2=>
 (eG n a0.c_ x2).bind λx3=>
 (aZ a1.aL 1).bind λx10=>
 (eG n a0.c_ x10).bind λx11=>
 (EV (i64.wrap (4+(a0.c_.gS.length:Int)))).bind λx18=>
 (aZ a0.c_.aX a1.eB).bind λx19=>
 fC (a0.c_.gS.length+[a1.eB].length<=1073741824) <|
 fC (a0.c_.oO.length+[x3.1].length<=1073741824) <|
 fC (a0.c_.jQ.length+[(max x3.1 (u32.wrap ((max x11.2 1) - 1)))].length<=1073741824) <|
 some ({ a0 with c_:=(bE.mk (a0.c_.aX.set a1.eB.toNat x18) (a0.c_.gS++[a1.eB]) (a0.c_.oO++[x3.1]) (a0.c_.jQ++[(max x3.1 (u32.wrap ((max x11.2 1) - 1)))])) }:aN)
@[go_sem] def mR (n:Nat) (x11:aA):Nat->Int->aN->Option aN
 | 0,_,_=>none
 | c21+1,v18,v19=>
   if decide (v18<(x11.aL.length:Int)) then
    ((aZ x11.aL v18).bind λx27=>
      (lK n v19 x27).bind λx33=>
      (if decide (x11.dR=([108,101,116]:bW)) then
         some true
        else
         if decide (x11.dR=([105,102]:bW)) then
          some true
         else
          if decide (x11.dR=([102,111,114]:bW)) then
           some true
          else
           if decide (x11.dR=([112,117,116]:bW)) then
            some (v18 == 0)
           else
            some false).bind λy35=>
      if y35 then
       (lI n x33 x27).bind λx44=>
       if decide (x11.dR=([108,101,116]:bW)) then
        (aZ x44.2.c_.aX x11.eB).bind λx48=>
        some ({ x44.2 with c_:=({ x44.2.c_ with aX:=(x44.2.c_.aX.set x11.eB.toNat x44.1) }:bE) }:aN)
       else
        some x44.2
      else
       some x33).bind λy26=>
    mR n x11 c21 (i64.wrap (v18+1)) y26
   else
    some v19
@[go_sem] def gY (dW:aN->(List aA)->Option aN) (n:Nat) (a1:(List aA)):Nat->Int->aN->Option (aN ⊕ aN)
 | 0,_,_=>none
 | c5+1,v2,v3=>
   if decide (v2<(a1.length:Int)) then
    ((aZ a1 v2).bind λx11=>
      (mR n x11 n 0 v3).bind λy20=>
      (if y20.e_ == 0 then
         some (decide (x11.dR=([102,111,114]:bW)))
        else
         some false).bind λy79=>
      if y79 then
       (lJ n y20 x11).bind λx85=>
       if x85.e_ != 0 then
        some (.inr x85)
       else
        (dW x85 x11.bH).bind λx88=>
        (dW x88 x11.eN).bind λx90=>
        some (.inl x90)
      else
       if y20.e_ != 0 then
        some (.inr y20)
       else
        (dW y20 x11.bH).bind λx93=>
        (dW x93 x11.eN).bind λx95=>
        some (.inl x95):Option (aN ⊕ aN)).bind λy10=>
    y10.elim (λy10a=>
     gY dW n a1 c5 (i64.wrap (v2+1)) y10a) (λy10a=>
     some (.inr y10a))
   else
    some (.inl v3)
def nI (dW:aN->(List aA)->Option aN) (n:Nat) (a0:aN) (a1:(List aA)):Option aN:=
 (gY dW n a1 n 0 a0).bind λy4=>
 y4.elim (λy4a=>
  some y4a) (λy4a=>
  some y4a)
def gL:Nat->aN->(List aA)->Option aN
 | 0=>λ_ _=>none
 | n+1=>nI (gL n) n
@[go_sem] def sL (a0:aQ):Nat->Int->aN->Option aN
 | 0,_,_=>none
 | c24+1,v21,v22=>
   if decide (v21<((a0.aR.take a0.aT.toNat).length:Int)) then
    ((aZ (a0.aR.take a0.aT.toNat) v21).bind λx30=>
      if x30.bK == 1 then
       (EV v21).bind λx37=>
       (aZ v22.c_.aX v21).bind λx38=>
       some ({ v22 with c_:=({ v22.c_ with aX:=(v22.c_.aX.set v21.toNat x37) }:bE) }:aN)
      else
       some v22).bind λy29=>
    sL a0 c24 (i64.wrap (v21+1)) y29
   else
    some v22
def tV (n:Nat) (a0:aQ):Option (bE × Int):=
 (if decide (4<a0.aT) then
    some true
   else
    (xF n a0.bH).bind λx5=>
    some (decide (250<x5))).bind λy3=>
 if y3 then
  some ((bE.mk [] [] [] []),136)
 else
  (tM [4294967295] 4).bind λx11=>
  fC (0<=(a0.aR.length:Int)/\(a0.aR.length:Int)<=1073741824) <|
  fC (0<=a0.aT/\a0.aT<=(a0.aR.length:Int)) <|
  (sL a0 n 0 (aN.mk (bE.mk (List.replicate a0.aR.length aH.Z) [] [0,0,0,0] x11) 0)).bind λy23=>
  (gL n y23 a0.bH).bind λx55=>
  if x55.e_ != 0 then
   some ((bE.mk [] [] [] []),x55.e_)
  else
   some (x55.c_,0)
def lO (a0:bE) (a1:Int):Option Int:=
 (if decide (a1<0) then
    some true
   else
    if decide ((a0.aX.length:Int)<=a1) then
     some true
    else
     (aZ a0.aX a1).bind λx5=>
     some (x5.dR != 2)).bind λy2=>
 if y2 then
  some (-1:Int)
 else
  (aZ a0.aX a1).bind λx14=>
  (if decide ((i64.wrap x14.N_)<4) then
     if (i64.wrap x14.N_) == a1 then
      some true
     else
      if decide (4<=(i64.wrap x14.N_)) then
       if decide ((i64.wrap ((i64.wrap x14.N_) - 4))<(a0.gS.length:Int)) then
        (aZ a0.gS (i64.wrap ((i64.wrap x14.N_) - 4))).bind λx24=>
        some (x24 == a1)
       else
        some false
      else
       some false
    else
     if decide (4<=(i64.wrap x14.N_)) then
      if decide ((i64.wrap ((i64.wrap x14.N_) - 4))<(a0.gS.length:Int)) then
       (aZ a0.gS (i64.wrap ((i64.wrap x14.N_) - 4))).bind λx31=>
       some (x31 == a1)
      else
       some false
     else
      some false).bind λy19=>
  if y19 then
   some (i64.wrap x14.N_)
  else
   some (-1:Int)
def nV (n:Nat):Option Bool:=
 (mZ n ([102,110,32,102,40,112,58,32,112,117,98,41,32,123,32,102,111,114,32,105,32,105,110,32,48,32,46,46,32,112,32,123,32,108,101,116,32,113,32,61,32,105,32,42,32,50,59,32,125,32,125]:bW) 0).bind λx1=>
 (tV n x1.1).bind λx5=>
 (if !x1.2.2 then
    some true
   else
    if x5.2 != 0 then
     some true
    else
     some ((x5.1.aX.length:Int) != 3)).bind λy8=>
 if y8 then
  some false
 else
  (aZ x5.1.aX 2).bind λx15=>
  (jC n x15 [0,0,0,0,21]).bind λx16=>
  (if x16.2=true then
     if x16.1 == 42 then
      (lO x5.1 1).bind λx26=>
      some (x26 == 4)
     else
      some false
    else
     some false).bind λy23=>
  some y23
def iM:List bW:=[([110,111,116]:bW),([110,101,103]:bW),([124]:bW),([94]:bW),([38]:bW),([61,61]:bW),([60]:bW),([60,60]:bW),([62,62]:bW),([60,60,60]:bW),([43]:bW),([45]:bW),([42]:bW),([47]:bW),([37]:bW)]
@[go_sem] def iL (eJ:aP->aD->Option (List aM)) (a1:aD) (a0:aP):Nat->(List aM)->Int->Option (List aM)
 | 0,_,_=>none
 | c46+1,v43,v44=>
   if decide (v44<(a1.aL.length:Int)) then
    (aZ a1.aL v44).bind λx51=>
    (eJ a0 x51).bind λx57=>
    fC (v43.length+x57.length<=1073741824) <|
    iL eJ a1 a0 c46 (v43++x57) (i64.wrap (v44+1))
   else
    some v43
@[go_sem] def qB (a1:aD):Nat->Int->Int->Option Int
 | 0,_,_=>none
 | c23+1,v20,v21=>
   if decide (v21<15) then
    ((aZ iM v21).bind λx29=>
      if decide (x29=a1.dR) then
       some (i64.wrap (v21+3))
      else
       some v20).bind λy28=>
    qB a1 c23 y28 (i64.wrap (v21+1))
   else
    some v20@[go_sem] theorem p_remontoirelaw15_book_put_k1_len:(cA cS iM).length=15:=rI rfl
def dC (eJ:aP->aD->Option (List aM)) (n:Nat) (a0:aP) (a1:aD):Option (List aM):=
 if decide (a1.dR=([110,117,109]:bW)) then
  some [(aM.mk 1 a1.N_ 0)]
 else
  (if decide (a1.dR=([118,97,114]:bW)) then
     if decide (0<=a1.eB) then
      some (decide (a1.eB<(a0.cQ.length:Int)))
     else
      some false
    else
     some false).bind λy4=>
  if y4 then
   (aZ a0.cQ a1.eB).bind λx11=>
   some x11
  else
   (qB a1 n 0 0).bind λy22=>
   (iL eJ a1 a0 n [(aM.mk y22 0 (a1.aL.length:Int))] 0).bind λy64=>
   some y64
def dN:Nat->aP->aD->Option (List aM)
 | 0=>λ_ _=>none
 | n+1=>dC (dN n) n
def mI (a0:Int):Option Int:=
 (if decide (a0<1) then
    some true
   else
    some (decide (17<a0))).bind λy1=>
 if y1 then
  some (-1:Int)
 else
  if decide (a0<3) then
   some 0
  else
   if decide (a0<5) then
    some 1
   else
    some 2
@[go_sem] def kG (a0:(List aM)):Nat->Int->Option (Unit ⊕ Bool)
 | 0,_=>none
 | c4+1,v2=>
   if decide (v2<(a0.length:Int)) then
    ((aZ a0 v2).bind λx10=>
      (mI x10.dR).bind λx11=>
      if decide (x11<0) then
       some true
      else
       (mI x10.dR).bind λx18=>
       if x18 != x10.Ll then
        some true
       else
        if decide (2<x10.dR) then
         if x10.jO != 0 then
          some true
         else
          if x10.dR == 2 then
           some (decide (255<x10.jO))
          else
           some false
        else
         if x10.dR == 2 then
          some (decide (255<x10.jO))
         else
          some false).bind λy9=>
    if y9 then
     some (.inr false)
    else
     kG a0 c4 (i64.wrap (v2+1))
   else
    some (.inl ())
def mJ (n:Nat) (a0:(List aM)):Option Bool:=
 (kG a0 n 0).bind λy3=>
 y3.elim (λy3a=>
  some (decide ((a0.length:Int)<=16384))) (λy3a=>
  some y3a)
@[go_sem] def pR (a0:Int):Nat->Int->Int->Option Int
 | 0,_,_=>none
 | c5+1,v2,v3=>
   if decide (v3<a0) then
    pR a0 c5 (u32.wrap (v2*2)) (u32.wrap (v3+1))
   else
    some v2
def dA (n:Nat) (a0:Int):Option Int:=
 (pR a0 n 1 0).bind λy4=>
 some y4
@[go_sem] def oS (a1:Int):Nat->Int->Int->Option Int
 | 0,_,_=>none
 | c5+1,v2,v3=>
   if decide (v3<a1) then
    oS a1 c5 (u32.wrap ((u32.wrap (v2*2))+(u32.wrap (v2.tdiv 2147483648)))) (u32.wrap (v3+1))
   else
    some v2
def fT (n:Nat) (a0:Int) (a1:Int):Option Int:=
 (oS a1 n a0 0).bind λy4=>
 some y4
def gI (n:Nat) (a0:Int) (a1:Int) (a2:Int):Option (Int × Bool):=
 if decide (16<=a0) then
  if a2 == 0 then
   some (0,false)
  else
   if a0 == 16 then
    fC (a2 ≠ 0) <|
    some ((u32.wrap (a1.tdiv a2)),true)
   else
    fC (a2 ≠ 0) <|
    some ((u32.wrap (a1 - (u32.wrap ((u32.wrap (a1.tdiv a2))*a2)))),true)
 else
  if a1 == a2 then
   if decide (a1<a2) then
    (dA n (a2.tmod 32)).bind λx8=>
    (dA n (a2.tmod 32)).bind λx9=>
    (fT n a1 (a2.tmod 32)).bind λx10=>
    fC (x9 ≠ 0) <|
    (aZ [0,0,0,(u32.wrap (4294967295 - a1)),(u32.wrap (0 - a1)),(Mn .u32 a1 a2),(IB .u32 a1 a2),(sJ .u32 a1 a2),1,1,(u32.wrap (a1*x8)),(u32.wrap (a1.tdiv x9)),x10,(u32.wrap (a1+a2)),(u32.wrap (a1 - a2)),(u32.wrap (a1*a2))] a0).bind λx16=>
    some (x16,true)
   else
    (dA n (a2.tmod 32)).bind λx25=>
    (dA n (a2.tmod 32)).bind λx26=>
    (fT n a1 (a2.tmod 32)).bind λx27=>
    fC (x26 ≠ 0) <|
    (aZ [0,0,0,(u32.wrap (4294967295 - a1)),(u32.wrap (0 - a1)),(Mn .u32 a1 a2),(IB .u32 a1 a2),(sJ .u32 a1 a2),1,0,(u32.wrap (a1*x25)),(u32.wrap (a1.tdiv x26)),x27,(u32.wrap (a1+a2)),(u32.wrap (a1 - a2)),(u32.wrap (a1*a2))] a0).bind λx33=>
    some (x33,true)
  else
   if decide (a1<a2) then
    (dA n (a2.tmod 32)).bind λx43=>
    (dA n (a2.tmod 32)).bind λx44=>
    (fT n a1 (a2.tmod 32)).bind λx45=>
    fC (x44 ≠ 0) <|
    (aZ [0,0,0,(u32.wrap (4294967295 - a1)),(u32.wrap (0 - a1)),(Mn .u32 a1 a2),(IB .u32 a1 a2),(sJ .u32 a1 a2),0,1,(u32.wrap (a1*x43)),(u32.wrap (a1.tdiv x44)),x45,(u32.wrap (a1+a2)),(u32.wrap (a1 - a2)),(u32.wrap (a1*a2))] a0).bind λx51=>
    some (x51,true)
   else
    (dA n (a2.tmod 32)).bind λx60=>
    (dA n (a2.tmod 32)).bind λx61=>
    (fT n a1 (a2.tmod 32)).bind λx62=>
    fC (x61 ≠ 0) <|
    (aZ [0,0,0,(u32.wrap (4294967295 - a1)),(u32.wrap (0 - a1)),(Mn .u32 a1 a2),(IB .u32 a1 a2),(sJ .u32 a1 a2),0,0,(u32.wrap (a1*x60)),(u32.wrap (a1.tdiv x61)),x62,(u32.wrap (a1+a2)),(u32.wrap (a1 - a2)),(u32.wrap (a1*a2))] a0).bind λx68=>
    some (x68,true)
def eU (kI:(List aM)->Int->Option ((List aM) × Int)) (n:Nat) (a0:(List aM)) (a1:Int):Option ((List aM) × Int):=
 (aZ a0 a1).bind λx1=>
 if decide (x1.dR<3) then
  some ([x1],(i64.wrap (a1+1)))
 else
  (kI a0 (i64.wrap (a1+1))).bind λx8=>
  if decide (x1.dR<5) then
   (aZ x8.1 0).bind λx11=>
   if x11.dR == 1 then
    (gI n x1.dR x11.jO 0).bind λx18=>
    some ([(aM.mk 1 x18.1 0)],x8.2)
   else
    fC ([x1].length+x8.1.length<=1073741824) <|
    some (([x1]++x8.1),x8.2)
  else
   (kI a0 x8.2).bind λx22=>
   ((aZ x8.1 0).bind λx25=>
     if x25.dR == 1 then
      (aZ x22.1 0).bind λx32=>
      some (x32.dR == 1)
     else
      some false).bind λy24=>
   if y24 then
    (aZ x8.1 0).bind λx42=>
    (aZ x22.1 0).bind λx43=>
    (gI n x1.dR x42.jO x43.jO).bind λx44=>
    if x44.2=true then
     some ([(aM.mk 1 x44.1 0)],x22.2)
    else
     fC ([x1].length+x8.1.length<=1073741824) <|
     fC (([x1]++x8.1).length+x22.1.length<=1073741824) <|
     some ((([x1]++x8.1)++x22.1),x22.2)
   else
    fC ([x1].length+x8.1.length<=1073741824) <|
    fC (([x1]++x8.1).length+x22.1.length<=1073741824) <|
    some ((([x1]++x8.1)++x22.1),x22.2)
def iW:Nat->(List aM)->Int->Option ((List aM) × Int)
 | 0=>λ_ _=>none
 | n+1=>eU (iW n) n
def fI (n:Nat) (a0:aP) (a1:aD):Option (List aM):=
 (dN n a0 a1).bind λx2=>
 (if (x2.length:Int) == 0 then
    some true
   else
    (mJ n x2).bind λx6=>
    some (!x6)).bind λy4=>
 if y4 then
  some []
 else
  (iW n x2 0).bind λx12=>
  some x12.1
def eP (a0:Int) (a1:Int):Option Int:=
 if decide (a0<a1) then
  some a0
 else
  some a1
def nS (a0:Int) (a1:Int) (a2:Int) (a3:Int) (a4:Int):Option (Int × Int):=
 if a0 == 7 then
  (eP a2 a4).bind λx2=>
  some (0,x2)
 else
  (if a0 == 13 then
     some (decide ((u64.wrap (a2+a4))<=4294967295))
    else
     some false).bind λy4=>
  if y4 then
   some ((u64.wrap (a1+a3)),(u64.wrap (a2+a4)))
  else
   (if a0 == 14 then
      some (decide (a4<=a1))
     else
      some false).bind λy10=>
   if y10 then
    some ((u64.wrap (a1 - a4)),(u64.wrap (a2 - a3)))
   else
    (if a0 == 15 then
       some (decide ((u64.wrap (a2*a4))<=4294967295))
      else
       some false).bind λy16=>
    if y16 then
     some ((u64.wrap (a1*a3)),(u64.wrap (a2*a4)))
    else
     if a4 == 0 then
      (if a0 == 8 then
         some true
        else
         some (a0 == 9)).bind λy23=>
      if y23 then
       some (0,1)
      else
       if a0 == 11 then
        some (0,a2)
       else
        (if a0 == 16 then
           some (a3 == 0)
          else
           some false).bind λy30=>
        if y30 then
         some ((u64.wrap (a1.tdiv 1)),a2)
        else
         if a0 == 16 then
          fC (a3 ≠ 0) <|
          some ((u64.wrap (a1.tdiv 1)),(u64.wrap (a2.tdiv a3)))
         else
          if a0 == 17 then
           (eP a2 (u64.wrap (1 - 1))).bind λx39=>
           some (0,x39)
          else
           some (0,4294967295)
     else
      (if a0 == 8 then
         some true
        else
         some (a0 == 9)).bind λy41=>
      if y41 then
       some (0,1)
      else
       if a0 == 11 then
        some (0,a2)
       else
        (if a0 == 16 then
           some (a3 == 0)
          else
           some false).bind λy48=>
        if y48 then
         fC (a4 ≠ 0) <|
         some ((u64.wrap (a1.tdiv a4)),a2)
        else
         if a0 == 16 then
          fC (a4 ≠ 0) <|
          fC (a3 ≠ 0) <|
          some ((u64.wrap (a1.tdiv a4)),(u64.wrap (a2.tdiv a3)))
         else
          if a0 == 17 then
           (eP a2 (u64.wrap (a4 - 1))).bind λx59=>
           some (0,x59)
          else
           some (0,4294967295)
def eT (kH:(List aM)->Int->(List Int)->(List Int)->Option (Int × Int × Int)) (n:Nat) (a0:(List aM)) (a1:Int) (a2:(List Int)) (a3:(List Int)):Option (Int × Int × Int):=
 (aZ a0 a1).bind λx1=>
 if x1.dR == 1 then
  some ((u64.wrap x1.jO),(u64.wrap x1.jO),(i64.wrap (a1+1)))
 else
  if x1.dR == 2 then
   if decide ((i64.wrap x1.jO)<(a2.length:Int)) then
    (aZ a2 x1.jO).bind λx10=>
    if decide ((i64.wrap x1.jO)<(a3.length:Int)) then
     (aZ a3 x1.jO).bind λx16=>
     some ((u64.wrap x10),(u64.wrap x16),(i64.wrap (a1+1)))
    else
     some ((u64.wrap x10),4294967295,(i64.wrap (a1+1)))
   else
    if decide ((i64.wrap x1.jO)<(a3.length:Int)) then
     (aZ a3 x1.jO).bind λx22=>
     some (0,(u64.wrap x22),(i64.wrap (a1+1)))
    else
     some (0,4294967295,(i64.wrap (a1+1)))
  else
   (kH a0 (i64.wrap (a1+1)) a2 a3).bind λx27=>
   if decide (x1.dR<5) then
    some (0,4294967295,x27.2.2)
   else
    (kH a0 x27.2.2 a2 a3).bind λx30=>
    (nS x1.dR x27.1 x27.2.1 x30.1 x30.2.1).bind λx32=>
    some (x32.1,x32.2,x30.2.2)
def gU:Nat->(List aM)->Int->(List Int)->(List Int)->Option (Int × Int × Int)
 | 0=>λ_ _ _ _=>none
 | n+1=>eT (gU n) n
def gM (n:Nat) (a0:aP) (a1:aA):Option (Bool × aP):=
 (aZ a1.aL 0).bind λx2=>
 (fI n a0 x2).bind λx3=>
 (aZ a1.aL 1).bind λx4=>
 (fI n a0 x4).bind λx5=>
 (if (x3.length:Int) == 0 then
    some true
   else
    some ((x5.length:Int) == 0)).bind λy18=>
 if y18 then
  some (false,a0)
 else
  (gU n x3 0 a0.fS a0.cB).bind λx24=>
  (gU n x5 0 a0.fS a0.cB).bind λx26=>
  (aZ a0.cQ a1.eB).bind λx28=>
  fC (a0.fS.length+[(u32.wrap x24.1)].length<=1073741824) <|
  fC (a0.cB.length+[(u32.wrap (max x24.1 (u64.wrap ((max x26.2.1 1) - 1))))].length<=1073741824) <|
  some (true,(aP.mk (a0.cQ.set a1.eB.toNat [(aM.mk 2 (u32.wrap (a0.fS.length:Int)) 0)]) (a0.fS++[(u32.wrap x24.1)]) (a0.cB++[(u32.wrap (max x24.1 (u64.wrap ((max x26.2.1 1) - 1))))])))
@[go_sem] def dM (bS:aP->(List aA)->Option (Bool × aP)) (n:Nat) (a1:(List aA)):Nat->Int->aP->Option (aP ⊕ (Bool × aP))
 | 0,_,_=>none
 | c5+1,v2,v3=>
   if decide (v2<(a1.length:Int)) then
    ((aZ a1 v2).bind λx11=>
      (if decide (x11.dR=([108,101,116]:bW)) then
         if decide (x11.eB<0) then
          some true
         else
          if decide ((v3.cQ.length:Int)<=x11.eB) then
           some true
          else
           if (x11.aL.length:Int) != 1 then
            some true
           else
            if decide (x11.dR=([102,111,114]:bW)) then
             some ((x11.aL.length:Int) != 2)
            else
             some false
        else
         if decide (x11.dR=([102,111,114]:bW)) then
          if decide (x11.eB<0) then
           some true
          else
           if decide ((v3.cQ.length:Int)<=x11.eB) then
            some true
           else
            some ((x11.aL.length:Int) != 2)
         else
          some false).bind λy17=>
      if y17 then
       some (.inr (false,v3))
      else
       if decide (x11.dR=([108,101,116]:bW)) then
        (aZ x11.aL 0).bind λx31=>
        (fI n v3 x31).bind λx32=>
        (aZ v3.cQ x11.eB).bind λx33=>
        (if decide (x11.dR=([102,111,114]:bW)) then
           (gM n ({ v3 with cQ:=(v3.cQ.set x11.eB.toNat x32) }:aP) x11).bind λx51=>
           if !x51.1 then
            some (true,x51.2)
           else
            (bS x51.2 x11.bH).bind λx54=>
            if !x54.1 then
             some (true,x54.2)
            else
             (bS x54.2 x11.eN).bind λx57=>
             some ((!x57.1),x57.2)
          else
           (bS ({ v3 with cQ:=(v3.cQ.set x11.eB.toNat x32) }:aP) x11.bH).bind λx59=>
           if !x59.1 then
            some (true,x59.2)
           else
            (bS x59.2 x11.eN).bind λx62=>
            some ((!x62.1),x62.2)).bind λy49=>
        if y49.1=true then
         some (.inr (false,y49.2))
        else
         some (.inl y49.2)
       else
        (if decide (x11.dR=([102,111,114]:bW)) then
           (gM n v3 x11).bind λx70=>
           if !x70.1 then
            some (true,x70.2)
           else
            (bS x70.2 x11.bH).bind λx73=>
            if !x73.1 then
             some (true,x73.2)
            else
             (bS x73.2 x11.eN).bind λx76=>
             some ((!x76.1),x76.2)
          else
           (bS v3 x11.bH).bind λx78=>
           if !x78.1 then
            some (true,x78.2)
           else
            (bS x78.2 x11.eN).bind λx81=>
            some ((!x81.1),x81.2)).bind λy68=>
        if y68.1=true then
         some (.inr (false,y68.2))
        else
         some (.inl y68.2):Option (aP ⊕ (Bool × aP))).bind λy10=>
    y10.elim (λy10a=>
     dM bS n a1 c5 (i64.wrap (v2+1)) y10a) (λy10a=>
     some (.inr y10a))
   else
    some (.inl v3)
def jK (bS:aP->(List aA)->Option (Bool × aP)) (n:Nat) (a0:aP) (a1:(List aA)):Option (Bool × aP):=
 (dM bS n a1 n 0 a0).bind λy4=>
 y4.elim (λy4a=>
  some (true,y4a)) (λy4a=>
  some y4a)
def dQ:Nat->aP->(List aA)->Option (Bool × aP)
 | 0=>λ_ _=>none
 | n+1=>jK (dQ n) n
@[go_sem] def pS (gO:aH->Option (List aM)) (a0:aH):Nat->(List aM)->Int->Option (List aM)
 | 0,_,_=>none
 | c12+1,v9,v10=>
   if decide (v10<(a0.aL.length:Int)) then
    (aZ a0.aL v10).bind λx17=>
    (gO x17).bind λx23=>
    fC (v9.length+x23.length<=1073741824) <|
    pS gO a0 c12 (v9++x23) (i64.wrap (v10+1))
   else
    some v9
def nB (gO:aH->Option (List aM)) (n:Nat) (a0:aH):Option (List aM):=
 (if a0.dR == 0 then
    some ((a0.aL.length:Int) == 0)
   else
    some false).bind λy2=>
 if y2 then
  some []
 else
  (pS gO a0 n [(aM.mk a0.dR a0.N_ (a0.aL.length:Int))] 0).bind λy11=>
  some y11
def gJ:Nat->aH->Option (List aM)
 | 0=>λ_=>none
 | n+1=>nB (gJ n) n
@[go_sem] def iA (x71:(List aM)) (x73:(List aM)):Nat->Int->Option (Unit ⊕ Bool)
 | 0,_=>none
 | c85+1,v83=>
   if decide (v83<(x71.length:Int)) then
    (aZ x71 v83).bind λx90=>
    (aZ x73 v83).bind λx91=>
    if !((x90.dR == x91.dR) && ((x90.jO == x91.jO) && (x90.Ll == x91.Ll))) then
     some (.inr false)
    else
     iA x71 x73 c85 (i64.wrap (v83+1))
   else
    some (.inl ())
@[go_sem] def fP (y47:(Bool × aP)) (x9:(bE × Int)):Nat->Int->Option (Unit ⊕ Bool)
 | 0,_=>none
 | c104+1,v102=>
   if decide (v102<(y47.2.fS.length:Int)) then
    ((aZ x9.1.oO v102).bind λx110=>
      (aZ y47.2.fS v102).bind λx111=>
      if x110 != x111 then
       some true
      else
       (aZ x9.1.jQ v102).bind λx121=>
       (aZ y47.2.cB v102).bind λx122=>
       some (x121 != x122)).bind λy109=>
    if y109 then
     some (.inr false)
    else
     fP y47 x9 c104 (i64.wrap (v102+1))
   else
    some (.inl ())
@[go_sem] def iB (n:Nat) (x9:(bE × Int)) (y47:(Bool × aP)):Nat->Int->Option (Unit ⊕ Bool)
 | 0,_=>none
 | c60+1,v58=>
   if decide (v58<(x9.1.aX.length:Int)) then
    (aZ x9.1.aX v58).bind λx65=>
    (gJ n x65).bind λx71=>
    (aZ y47.2.cQ v58).bind λx73=>
    if (x71.length:Int) != (x73.length:Int) then
     some (.inr false)
    else
     (iA x71 x73 n 0).bind λy84=>
     y84.elim (λy84a=>
      iB n x9 y47 c60 (i64.wrap (v58+1))) (λy84a=>
      some (.inr y84a))
   else
    some (.inl ())
@[go_sem] def fQ (x4:(aQ × aW × Bool)):Nat->Int->aP->Option aP
 | 0,_,_=>none
 | c22+1,v19,v20=>
   if decide (v19<(min x4.1.aT (x4.1.aR.length:Int))) then
    ((aZ x4.1.aR v19).bind λx28=>
      if x28.bK == 1 then
       (aZ v20.cQ v19).bind λx34=>
       some ({ v20 with cQ:=(v20.cQ.set v19.toNat [(aM.mk 2 (u32.wrap v19) 0)]) }:aP)
      else
       some v20).bind λy27=>
    fQ x4 c22 (i64.wrap (v19+1)) y27
   else
    some v20
def kP (n:Nat) (a0:bW) (a1:Int):Option Bool:=
 (nV n).bind λx1=>
 if !x1 then
  some false
 else
  (mZ n a0 a1).bind λx4=>
  if !x4.2.2 then
   some true
  else
   (tV n x4.1).bind λx9=>
   if x9.2 != 0 then
    some true
   else
    fC (0<=(x4.1.aR.length:Int)/\(x4.1.aR.length:Int)<=1073741824) <|
    (fQ x4 n 0 (aP.mk (List.replicate x4.1.aR.length ([]:(List aM))) [0,0,0,0] [4294967295,4294967295,4294967295,4294967295])).bind λy21=>
    ((dQ n y21 x4.1.bH).bind λx170=>
      if !x170.1 then
       some (true,x170.2)
      else
       if (x9.1.aX.length:Int) != (x170.2.cQ.length:Int) then
        some (true,x170.2)
       else
        if (x9.1.oO.length:Int) != (x170.2.fS.length:Int) then
         some (true,x170.2)
        else
         some (((x9.1.jQ.length:Int) != (x170.2.cB.length:Int)),x170.2)).bind λy169=>
    if y169.1=true then
     some false
    else
     (iB n x9 y169 n 0).bind λy181=>
     y181.elim (λy181a=>
      (fP y169 x9 n 0).bind λy259=>
      y259.elim (λy259a=>
       some true) (λy259a=>
       some y259a)) (λy181a=>
      some y181a)
