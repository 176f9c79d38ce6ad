/-
 Plain models of functions. Written by a program of mine (gen.py) for this claim.
-/
import Derived.Test.YtldnmmnnohnpkaaGreatDoorIOS3
namespace Go.Proofs.YtldnmmnnohnpkaaGreatDoor.Abs
set_option linter.unusedVariables false
open Go.RowKit
structure zaE where
 name_:Str
 args_:Int
def zaE.C (x:zaE):List V:=[.lit (.string (bs x.name_)),.lit (.int .i64 x.args_)]
@[go_sem] theorem zaE.C_eq (x:zaE):zaE.C x=[.lit (.string (bs x.name_)),.lit (.int .i64 x.args_)]:=_root_.id rfl
structure zaK where
 zmX:Str
 op_:Int
def zaK.C (x:zaK):List V:=[.lit (.string (bs x.zmX)),.lit (.int .i64 x.op_)]
@[go_sem] theorem zaK.C_eq (x:zaK):zaK.C x=[.lit (.string (bs x.zmX)),.lit (.int .i64 x.op_)]:=_root_.id rfl
structure zbs where
 zbE:Int
 At_:Int
 zbp:Str
 Num_:Int
def zbs.C (x:zbs):List V:=[.lit (.int .i64 x.zbE),.lit (.int .i64 x.At_),.lit (.string (bs x.zbp)),.lit (.int .u32 x.Num_)]
@[go_sem] theorem zbs.C_eq (x:zbs):zbs.C x=[.lit (.int .i64 x.zbE),.lit (.int .i64 x.At_),.lit (.string (bs x.zbp)),.lit (.int .u32 x.Num_)]:=_root_.id rfl
structure zab where
 zbE:Int
 At_:Int
 zbp:Str
 Num_:Int
 zay:(List zab)
mutual
def zab.C:zab->List V
 | ⟨a0,a1,a2,a3,a4⟩=>[.lit (.int .i64 a0),.lit (.int .i64 a1),.lit (.string (bs a2)),.lit (.int .u32 a3),.list .none (zab.CL a4)]
def zab.CL:List zab->List (List V)
 | []=>[]
 | x::l=>zab.C x::zab.CL l
end
theorem zab.CL_eq (l:List zab):zab.CL l=l.map zab.C:=by
 induction l with
 | nil=>rfl
 | cons x l ih=>rw [zab.CL,ih];rfl
@[go_sem] theorem zab.C_eq (x:zab):zab.C x=[.lit (.int .i64 x.zbE),.lit (.int .i64 x.At_),.lit (.string (bs x.zbp)),.lit (.int .u32 x.Num_),.list .none (x.zay.map zab.C)]:=by
 cases x;simp only [zab.C,zab.CL_eq]
structure zac where
 l_:(List zbs)
 at_:Int
 zhs:Int
 e_:Int
 zjY:Int
def zac.C (x:zac):List V:=[.list .none (x.l_.map zbs.C),.lit (.int .i64 x.at_),.lit (.int .i64 x.zhs),.lit (.int .i64 x.e_),.lit (.int .i64 x.zjY)]
@[go_sem] theorem zac.C_eq (x:zac):zac.C x=[.list .none (x.l_.map zbs.C),.lit (.int .i64 x.at_),.lit (.int .i64 x.zhs),.lit (.int .i64 x.e_),.lit (.int .i64 x.zjY)]:=_root_.id rfl
structure zaD where
 zgB:Str
 zbE:Int
 zga:Int
def zaD.C (x:zaD):List V:=[.lit (.string (bs x.zgB)),.lit (.int .i64 x.zbE),.lit (.int .i64 x.zga)]
@[go_sem] theorem zaD.C_eq (x:zaD):zaD.C x=[.lit (.string (bs x.zgB)),.lit (.int .i64 x.zbE),.lit (.int .i64 x.zga)]:=_root_.id rfl
structure zag where
 Op_:Str
 zcR:Int
 N_:Int
 Var_:Int
 zay:(List zag)
 At_:Int
mutual
def zag.C:zag->List V
 | ⟨a0,a1,a2,a3,a4,a5⟩=>[.lit (.string (bs a0)),.lit (.int .i64 a1),.lit (.int .u32 a2),.lit (.int .i64 a3),.list .none (zag.CL a4),.lit (.int .i64 a5)]
def zag.CL:List zag->List (List V)
 | []=>[]
 | x::l=>zag.C x::zag.CL l
end
theorem zag.CL_eq (l:List zag):zag.CL l=l.map zag.C:=by
 induction l with
 | nil=>rfl
 | cons x l ih=>rw [zag.CL,ih];rfl
@[go_sem] theorem zag.C_eq (x:zag):zag.C x=[.lit (.string (bs x.Op_)),.lit (.int .i64 x.zcR),.lit (.int .u32 x.N_),.lit (.int .i64 x.Var_),.list .none (x.zay.map zag.C),.lit (.int .i64 x.At_)]:=by
 cases x;simp only [zag.C,zag.CL_eq]
structure zae where
 Op_:Str
 Var_:Int
 zhd:Int
 zay:(List zag)
 zdG:(List zae)
 zip:(List zae)
 At_:Int
mutual
def zae.C:zae->List V
 | ⟨a0,a1,a2,a3,a4,a5,a6⟩=>[.lit (.string (bs a0)),.lit (.int .i64 a1),.lit (.int .i64 a2),.list .none (a3.map zag.C),.list .none (zae.CL a4),.list .none (zae.CL a5),.lit (.int .i64 a6)]
def zae.CL:List zae->List (List V)
 | []=>[]
 | x::l=>zae.C x::zae.CL l
end
theorem zae.CL_eq (l:List zae):zae.CL l=l.map zae.C:=by
 induction l with
 | nil=>rfl
 | cons x l ih=>rw [zae.CL,ih];rfl
@[go_sem] theorem zae.C_eq (x:zae):zae.C x=[.lit (.string (bs x.Op_)),.lit (.int .i64 x.Var_),.lit (.int .i64 x.zhd),.list .none (x.zay.map zag.C),.list .none (x.zdG.map zae.C),.list .none (x.zip.map zae.C),.lit (.int .i64 x.At_)]:=by
 cases x;simp only [zae.C,zae.CL_eq]
structure zaH where
 zgB:Str
 zgl:Bool
 zcD:Int
 zbf:Int
 zbe:(List zaD)
 zdG:(List zae)
def zaH.C (x:zaH):List V:=[.lit (.string (bs x.zgB)),.lit (.bool x.zgl),.lit (.int .i64 x.zcD),.lit (.int .i64 x.zbf),.list .none (x.zbe.map zaD.C),.list .none (x.zdG.map zae.C)]
@[go_sem] theorem zaH.C_eq (x:zaH):zaH.C x=[.lit (.string (bs x.zgB)),.lit (.bool x.zgl),.lit (.int .i64 x.zcD),.lit (.int .i64 x.zbf),.list .none (x.zbe.map zaD.C),.list .none (x.zdG.map zae.C)]:=_root_.id rfl
structure zat where
 zbo:(List zaH)
def zat.C (x:zat):List V:=[.list .none (x.zbo.map zaH.C)]
@[go_sem] theorem zat.C_eq (x:zat):zat.C x=[.list .none (x.zbo.map zaH.C)]:=_root_.id rfl
def zat.Z:zat:=⟨[]⟩
structure zaj where
 e_:Int
 zjY:Int
structure zad where
 p_:zat
 f_:Int
 zaW:List Int
 zbR:List (List Int)
 at_:Int
def zad.Z:zad:=⟨zat.Z,-1,[],[],0⟩
def ckC (F fp S C:V) (x:zad) (y:zaj):List V:=[F,fp,S,C,.lit (.int .i64 x.at_),.lit (.int .i64 y.e_),.lit (.int .i64 y.zjY)]
@[go_sem] theorem ckC_eq {F fp S C:V} {x:zad} {y:zaj}:ckC F fp S C x y=[F,fp,S,C,.lit (.int .i64 x.at_),.lit (.int .i64 y.e_),.lit (.int .i64 y.zjY)]:=_root_.id rfl
def zcI:List Str:=[[45,62],[46,46],[61,61],[60,60,60],[60,60],[62,62],[60],[40],[41],[123],[125],[91],[93],[44],[59],[58],[61],[43],[45],[42],[47],[37],[38],[124],[94],[126]]
@[go_sem] theorem zoQ:(cA cS zcI).length=26:=by kernel_rfl
@[go_sem] theorem zoc:(cA cS zcI).take 26=(cA cS zcI):=by kernel_rfl
def zaZ:List Str:=[[102,110],[101,120,112,111,114,116],[108,101,116],[118,97,114],[97,114,114],[105,102],[101,108,115,101],[102,111,114],[105,110],[114,101,116,117,114,110],[112,117,98],[117,51,50],[117,54,52]]
@[go_sem] theorem zn1:(cA cS zaZ).length=13:=by kernel_rfl
@[go_sem] theorem znf:zkE 1 13 (cA cS zaZ)=zaZ.map cS:=_root_.id rfl
def zbr:List (List Str):=[[[124],[],[]],[[94],[],[]],[[38],[],[]],[[61,61],[60],[]],[[60,60],[62,62],[60,60,60]],[[43],[45],[]],[[42],[47],[37]]]
def za6:List zaE:=[(zaE.mk [115,101,108,101,99,116] 3),(zaE.mk [108,111,110,103] 1),(zaE.mk [108,111] 1),(zaE.mk [104,105] 1),(zaE.mk [119,105,100,101] 2)]
@[go_sem] theorem zn3:(cA zaE.C za6).length=10:=by kernel_rfl
@[go_sem] theorem zny:(cA zaE.C za6).take 10=(cA zaE.C za6):=by kernel_rfl
@[go_sem] theorem zmQ:(cA zaE.C za6).map V.shared=(cA zaE.C za6):=_root_.id rfl
def zbq:List zaK:=[(zaK.mk [124] 5),(zaK.mk [94] 6),(zaK.mk [38] 7),(zaK.mk [61,61] 8),(zaK.mk [60] 9),(zaK.mk [60,60] 10),(zaK.mk [62,62] 11),(zaK.mk [60,60,60] 12),(zaK.mk [43] 13),(zaK.mk [45] 14),(zaK.mk [42] 15),(zaK.mk [47] 16),(zaK.mk [37] 17),(zaK.mk [110,111,116] 3),(zaK.mk [110,101,103] 4)]
@[go_sem] theorem zod:(cA zaK.C zbq).length=30:=by kernel_rfl
@[go_sem] theorem zn2:(cA zaK.C zbq).take 30=(cA zaK.C zbq):=by kernel_rfl
@[go_sem] theorem zng:(cA zaK.C zbq).map V.shared=(cA zaK.C zbq):=_root_.id rfl
def zli (a0:Int):Option Bool:=
 (if (a0 == (32:Int))=true then
    some true
   else
    if (a0 == (9:Int))=true then
     some true
    else
     if (a0 == (13:Int))=true then
      some true
     else
      some (a0 == (10:Int))).bind fun y1=>
 some y1
def zcv (a0:Str) (a1:Str):Option Bool:=
 (if (decide ((a1.length:Int)<=(a0.length:Int)))=true then
    need ((0:Int)<=(a1.length:Int)/\(a1.length:Int)<=(a0.length:Int)) <|
    some (decide ((a0.take (a1.length:Int).toNat)=a1))
   else
    some false).bind fun y1=>
 some y1
def zft (a0:Str) (a1:Str):Option Bool:=
 (zcv a0 a1).bind fun x1=>
 some x1
def zeb (a0:Str) (a1:Int):Option Int:=some (Lib.indexByte a0 a1.toNat.toUInt8)
def zdu (a0:Str) (a1:Int):Option Int:=
 (zeb a0 a1).bind fun x1=>
 some x1
def zeh (a0:Str) (a1:Int):Option Int:=
 (zdu a0 a1).bind fun x1=>
 some x1
def zgj (a0:Str):Nat->Int->Option (Int ⊕ Int)
 | 0,_=>none
 | c4+1,v2=>
   if (decide (v2<(a0.length:Int)))=true then
    (idxL a0 v2).bind fun x9=>
    (zli (x9.toNat:Int)).bind fun x10=>
    if x10=true then
     zgj a0 c4 (IntKind.i64.wrap (v2+(1:Int)))
    else
     need ((0:Int)<=v2/\v2<=(a0.length:Int)) <|
     (zft (a0.drop v2.toNat) ([47,47]:Str)).bind fun x17=>
     if x17=true then
      need ((0:Int)<=v2/\v2<=(a0.length:Int)) <|
      (zeh (a0.drop v2.toNat) (10:Int)).bind fun x22=>
      if (decide (x22<(0:Int)))=true then
       some (.inr (a0.length:Int))
      else
       zgj a0 c4 (IntKind.i64.wrap (v2+x22))
     else
      some (.inr v2)
   else
    some (.inl v2)
def zk2 (n:Nat) (a0:Str) (a1:Int):Option Int:=
 (zgj a0 n a1).bind fun y3=>
 y3.elim (fun y3a=>
  some y3a) (fun y3a=>
  some y3a)
def zjJ (a0:Int):Option Bool:=
 (if (decide ((97:Int)<=a0))=true then
    if (decide (a0<=(122:Int)))=true then
     some true
    else
     some (a0 == (95:Int))
   else
    some (a0 == (95:Int))).bind fun y1=>
 some y1
def zkA (a0:Int):Option Bool:=
 (if (decide ((48:Int)<=a0))=true then
    some (decide (a0<=(57:Int)))
   else
    some false).bind fun y1=>
 some y1
def zg7 (a0:Str):Nat->Int->Option (Unit ⊕ Str)
 | 0,_=>none
 | c4+1,v2=>
   if (decide (v2<(a0.length:Int)))=true then
    ((idxL a0 v2).bind fun x10=>
      (zjJ (x10.toNat:Int)).bind fun x11=>
      if (!x11)=true then
       (zkA (x10.toNat:Int)).bind fun x18=>
       some (!x18)
      else
       some false).bind fun y9=>
    if y9=true then
     need ((0:Int)<=v2/\v2<=(a0.length:Int)) <|
     some (.inr (a0.take v2.toNat))
    else
     zg7 a0 c4 (IntKind.i64.wrap (v2+(1:Int)))
   else
    some (.inl ())
def zlZ (n:Nat) (a0:Str):Option Str:=
 (zg7 a0 n (0:Int)).bind fun y3=>
 y3.elim (fun y3a=>
  some a0) (fun y3a=>
  some y3a)
def zdv (a0:Str) (a1:Str):Option (Str × Bool):=
 (zcv a0 a1).bind fun x1=>
 if (!x1)=true then
  some (a0,false)
 else
  need ((0:Int)<=(a1.length:Int)/\(a1.length:Int)<=(a0.length:Int)) <|
  some ((a0.drop (a1.length:Int).toNat),true)
def zgf (a0:Str) (a1:Str):Option (Str × Bool):=
 (zdv a0 a1).bind fun x1=>
 some (x1.1,x1.2)
def zgx (x1:(Str × Bool)):Nat->Int->Int->Option (Int ⊕ (Int × Bool))
 | 0,_,_=>none
 | c8+1,v5,v6=>
   if (decide (v6<(x1.1.length:Int)))=true then
    need ((0:Int)<=(16:Int)/\(16:Int)<=(([48,49,50,51,52,53,54,55,56,57,97,98,99,100,101,102]:Str).length:Int)) <|
    (idxL x1.1 v6).bind fun x13=>
    (zeh (([48,49,50,51,52,53,54,55,56,57,97,98,99,100,101,102]:Str).take (16:Int).toNat) (x13.toNat:Int)).bind fun x14=>
    (if (decide (x14<(0:Int)))=true then
       some true
      else
       some (decide ((4294967295:Int)<(IntKind.i64.wrap ((IntKind.i64.wrap (v5*(16:Int)))+x14))))).bind fun y22=>
    if y22=true then
     some (.inr ((0:Int),false))
    else
     zgx x1 c8 (IntKind.i64.wrap ((IntKind.i64.wrap (v5*(16:Int)))+x14)) (IntKind.i64.wrap (v6+(1:Int)))
   else
    some (.inl v5)
def zgw (a0:Str):Nat->Int->Int->Option (Int ⊕ (Int × Bool))
 | 0,_,_=>none
 | c32+1,v29,v30=>
   if (decide (v30<(a0.length:Int)))=true then
    need ((0:Int)<=(10:Int)/\(10:Int)<=(([48,49,50,51,52,53,54,55,56,57,97,98,99,100,101,102]:Str).length:Int)) <|
    (idxL a0 v30).bind fun x37=>
    (zeh (([48,49,50,51,52,53,54,55,56,57,97,98,99,100,101,102]:Str).take (10:Int).toNat) (x37.toNat:Int)).bind fun x38=>
    (if (decide (x38<(0:Int)))=true then
       some true
      else
       some (decide ((4294967295:Int)<(IntKind.i64.wrap ((IntKind.i64.wrap (v29*(10:Int)))+x38))))).bind fun y46=>
    if y46=true then
     some (.inr ((0:Int),false))
    else
     zgw a0 c32 (IntKind.i64.wrap ((IntKind.i64.wrap (v29*(10:Int)))+x38)) (IntKind.i64.wrap (v30+(1:Int)))
   else
    some (.inl v29)
def zlg (n:Nat) (a0:Str):Option (Int × Bool):=
 (zgf a0 ([48,120]:Str)).bind fun x1=>
 if x1.2=true then
  (zgx x1 n (0:Int) (0:Int)).bind fun y7=>
  y7.elim (fun y7a=>
   some ((IntKind.u32.wrap y7a),(decide (x1.1 ≠ ([]:Str))))) (fun y7a=>
   some y7a)
 else
  (zgw a0 n (0:Int) (0:Int)).bind fun y31=>
  y31.elim (fun y31a=>
   some ((IntKind.u32.wrap y31a),(decide (a0 ≠ ([]:Str))))) (fun y31a=>
   some y31a)
def zg8 (a0:Str):Nat->Int->Option (Unit ⊕ Str)
 | 0,_=>none
 | c4+1,v2=>
   if (decide (v2<(26:Int)))=true then
    (idxL zcI v2).bind fun x9=>
    (zft a0 x9).bind fun x17=>
    if x17=true then
     some (.inr x9)
    else
     zg8 a0 c4 (IntKind.i64.wrap (v2+(1:Int)))
   else
    some (.inl ())
def zl0 (n:Nat) (a0:Str):Option Str:=
 (zg8 a0 n (0:Int)).bind fun y3=>
 y3.elim (fun y3a=>
  some ([]:Str)) (fun y3a=>
  some y3a)
def zl1 (n:Nat) (a0:Str) (a1:Int):Option (zbs × Int):=
 need ((0:Int)<=a1/\a1<=(a0.length:Int)) <|
 (zlZ n (a0.drop a1.toNat)).bind fun x2=>
 (idxL a0 a1).bind fun x7=>
 (zjJ (x7.toNat:Int)).bind fun x8=>
 if x8=true then
  if (decide ((32:Int)<(x2.length:Int)))=true then
   some ((zbs.mk (0:Int) (0:Int) [] (0:Int)),(102:Int))
  else
   some ((zbs.mk (1:Int) a1 x2 (0:Int)),(0:Int))
 else
  (zkA (x7.toNat:Int)).bind fun x16=>
  if x16=true then
   (zlg n x2).bind fun x19=>
   if (!x19.2)=true then
    some ((zbs.mk (0:Int) (0:Int) [] (0:Int)),(101:Int))
   else
    some ((zbs.mk (2:Int) a1 x2 x19.1),(0:Int))
  else
   need ((0:Int)<=a1/\a1<=(a0.length:Int)) <|
   (zl0 n (a0.drop a1.toNat)).bind fun x22=>
   if (decide (x22=([]:Str)))=true then
    some ((zbs.mk (0:Int) (0:Int) [] (0:Int)),(100:Int))
   else
    some ((zbs.mk (3:Int) a1 x22 (0:Int)),(0:Int))
def zfZ (n:Nat) (a0:Str):Nat->(List zbs)->Int->Option ((List zbs) ⊕ ((List zbs) × Int × Int))
 | 0,_,_=>none
 | c8+1,v5,v6=>
   if (decide (v6<(a0.length:Int)))=true then
    (zl1 n a0 v6).bind fun x13=>
    if (x13.2 != (0:Int))=true then
     some (.inr ([],x13.2,v6))
    else
     need (v5.length+[x13.1].length<=1073741824) <|
     (zk2 n a0 (IntKind.i64.wrap (v6+(x13.1.zbp.length:Int)))).bind fun x20=>
     zfZ n a0 c8 (v5++[x13.1]) x20
   else
    some (.inl v5)
def zkN (n:Nat) (a0:Str):Option ((List zbs) × Int × Int):=
 if (decide ((65536:Int)<(a0.length:Int)))=true then
  some ([],(161:Int),(0:Int))
 else
  (zk2 n a0 (0:Int)).bind fun x2=>
  (zfZ n a0 n [] x2).bind fun y7=>
  y7.elim (fun y7a=>
   need (y7a.length+[(zbs.mk (4:Int) (a0.length:Int) [] (0:Int))].length<=1073741824) <|
   some ((y7a++[(zbs.mk (4:Int) (a0.length:Int) [] (0:Int))]),(0:Int),(0:Int))) (fun y7a=>
   some y7a)
def zbP (a0:zac):Option zbs:=
 (idxL a0.l_ a0.at_).bind fun x2=>
 some x2
def zcH (a0:zac) (a1:Int):Option zac:=
 if (a0.e_ == (0:Int))=true then
  (zbP a0).bind fun x2=>
  some ({ a0 with e_:=a1,zjY:=x2.At_ }:zac)
 else
  some a0
def zbW (a0:zac) (a1:Int):Option (zab × zac):=
 if (decide ((16384:Int)<(IntKind.i64.wrap (a0.zhs+(1:Int)))))=true then
  (zcH ({ a0 with zhs:=(IntKind.i64.wrap (a0.zhs+(1:Int))) }:zac) (136:Int)).bind fun x3=>
  (zbP x3).bind fun x5=>
  some ((zab.mk a1 x5.At_ [] (0:Int) []),x3)
 else
  (zbP ({ a0 with zhs:=(IntKind.i64.wrap (a0.zhs+(1:Int))) }:zac)).bind fun x7=>
  some ((zab.mk a1 x7.At_ [] (0:Int) []),({ a0 with zhs:=(IntKind.i64.wrap (a0.zhs+(1:Int))) }:zac))
def zb5 (a0:(List Str)) (a1:Str):Nat->Int->Option (Unit ⊕ Int)
 | 0,_=>none
 | c4+1,v2=>
   if (decide (v2<(a0.length:Int)))=true then
    (idxL a0 v2).bind fun x9=>
    if (decide (a1=x9))=true then
     some (.inr v2)
    else
     zb5 a0 a1 c4 (IntKind.i64.wrap (v2+(1:Int)))
   else
    some (.inl ())
def zdH (n:Nat) (a0:(List Str)) (a1:Str):Option Int:=
 (zb5 a0 a1 n (0:Int)).bind fun y3=>
 y3.elim (fun y3a=>
  some (-1:Int)) (fun y3a=>
  some y3a)
def zdj (n:Nat) (a0:(List Str)) (a1:Str):Option Bool:=
 (zdH n a0 a1).bind fun x1=>
 some (decide ((0:Int)<=x1))
def zjI (n:Nat) (a0:Str):Option Bool:=
 (zdj n zaZ a0).bind fun x1=>
 some x1
def zdk (n:Nat) (a0:zac) (a1:Str):Option Bool:=
 (zbP a0).bind fun x1=>
 (if (a0.e_ == (0:Int))=true then
    if (decide (x1.zbp=a1))=true then
     if (x1.zbE == (3:Int))=true then
      some true
     else
      if (x1.zbE == (1:Int))=true then
       (zjI n a1).bind fun x9=>
       some x9
      else
       some false
    else
     some false
   else
    some false).bind fun y4=>
 some y4
def zaT (n:Nat) (a0:zac) (a1:Str):Option (Bool × zac):=
 (zdk n a0 a1).bind fun x1=>
 if (!x1)=true then
  some (false,a0)
 else
  some (true,({ a0 with at_:=(IntKind.i64.wrap (a0.at_+(1:Int))) }:zac))
def zaL (n:Nat) (a0:zac) (a1:Str):Option zac:=
 (zaT n a0 a1).bind fun x1=>
 if (!x1.1)=true then
  (zcH x1.2 (110:Int)).bind fun x4=>
  some x4
 else
  some x1.2
def zbX (n:Nat) (a0:zac):Option (Str × zac):=
 (zbP a0).bind fun x1=>
 (if (a0.e_ != (0:Int))=true then
    some true
   else
    if (x1.zbE != (1:Int))=true then
     some true
    else
     (zjI n x1.zbp).bind fun x7=>
     some x7).bind fun y4=>
 if y4=true then
  (zcH a0 (110:Int)).bind fun x13=>
  some (([]:Str),x13)
 else
  some (x1.zbp,({ a0 with at_:=(IntKind.i64.wrap (a0.at_+(1:Int))) }:zac))
def zd2 (a0:zac):Option (Int × zac):=
 (zbP a0).bind fun x1=>
 (if (a0.e_ != (0:Int))=true then
    some true
   else
    some (x1.zbE != (2:Int))).bind fun y4=>
 if y4=true then
  (zcH a0 (110:Int)).bind fun x10=>
  some ((0:Int),x10)
 else
  some (x1.Num_,({ a0 with at_:=(IntKind.i64.wrap (a0.at_+(1:Int))) }:zac))
def zey (n:Nat) (a0:zac):Option (Int × zac):=
 (zaL n a0 ([91]:Str)).bind fun x1=>
 (zd2 x1).bind fun x3=>
 (zaL n x3.2 ([93]:Str)).bind fun x5=>
 some (x3.1,x5)
def zfV:List Str:=[([112,117,98]:Str),([117,51,50]:Str),([117,54,52]:Str)]
def zcT (n:Nat):Nat->Int->zac->zab->zab->Option ((zac × zab × zab) ⊕ (zab × zac))
 | 0,_,_,_,_=>none
 | c15+1,v10,v11,v12,v13=>
   if (decide (v10<(3:Int)))=true then
    (idxL zfV v10).bind fun x20=>
    (zaT n v11 x20).bind fun x29=>
    if x29.1=true then
     some (.inr (({ v13 with Num_:=(IntKind.u32.wrap (IntKind.i64.wrap ((1:Int)+v10))) }:zab),x29.2))
    else
     zcT n c15 (IntKind.i64.wrap (v10+(1:Int))) x29.2 v12 v13
   else
    some (.inl (v11,v12,v13))
def zfz (n:Nat) (a0:zac):Option (zab × zac):=
 (zbW a0 (3:Int)).bind fun x2=>
 (zbX n x2.2).bind fun x5=>
 (zaL n x5.2 ([58]:Str)).bind fun x7=>
 (zcT n n (0:Int) x7 (zab.mk (0:Int) (0:Int) [] (0:Int) []) ({ x2.1 with zbp:=x5.1 }:zab)).bind fun y14=>
 y14.elim (fun y14a=>
  (zbW y14a.1 (14:Int)).bind fun x37=>
  (zey n x37.2).bind fun x40=>
  some (({ y14a.2.2 with Num_:=(4:Int),zay:=[({ x37.1 with Num_:=x40.1 }:zab)] }:zab),x40.2)) (fun y14a=>
  some y14a)
def zcc (n:Nat):Nat->(List zab)->zac->Option ((List zab) × zac)
 | 0,_,_=>none
 | c11+1,v8,v9=>
   if (v9.e_ == (0:Int))=true then
    (zfz n v9).bind fun x16=>
    need (v8.length+[x16.1].length<=1073741824) <|
    (zaT n x16.2 ([44]:Str)).bind fun x21=>
    if (!x21.1)=true then
     some ((v8++[x16.1]),x21.2)
    else
     zcc n c11 (v8++[x16.1]) x21.2
   else
    some (v8,v9)
def zdb (n:Nat) (a0:zac):Option ((List zab) × zac):=
 (zaL n a0 ([40]:Str)).bind fun x1=>
 (zaT n x1 ([41]:Str)).bind fun x3=>
 if x3.1=true then
  some ([],x3.2)
 else
  ((zcc n n [] x3.2).bind fun y10=>
    some (y10.1,y10.2)).bind fun y6=>
  (zaL n y6.2 ([41]:Str)).bind fun x27=>
  some (y6.1,x27)
def zeB (a0:zac) (a1:Int):Option zac:=
 if (decide ((64:Int)<a1))=true then
  (zcH a0 (111:Int)).bind fun x2=>
  some x2
 else
  some a0
def zdd (n:Nat) (x1:(List Str)) (a0:zac):Nat->Int->Option (Unit ⊕ Str)
 | 0,_=>none
 | c15+1,v13=>
   if (decide (v13<(3:Int)))=true then
    (idxL x1 v13).bind fun x20=>
    (if (decide (x20 ≠ ([]:Str)))=true then
       (zdk n a0 x20).bind fun x31=>
       some x31
      else
       some false).bind fun y29=>
    if y29=true then
     some (.inr x20)
    else
     zdd n x1 a0 c15 (IntKind.i64.wrap (v13+(1:Int)))
   else
    some (.inl ())
def zez (n:Nat) (a0:zac) (a1:Int):Option Str:=
 (idxL zbr a1).bind fun x1=>
 (zdd n x1 a0 n (0:Int)).bind fun y14=>
 y14.elim (fun y14a=>
  some ([]:Str)) (fun y14a=>
  some y14a)
def zbU (zbz:zac->Int->Option (zab × zac)) (n:Nat) (a1:Int):Nat->(List zab)->zac->Option ((List zab) × zac)
 | 0,_,_=>none
 | c11+1,v8,v9=>
   if (v9.e_ == (0:Int))=true then
    (zbz v9 a1).bind fun x16=>
    need (v8.length+[x16.1].length<=1073741824) <|
    (zaT n x16.2 ([44]:Str)).bind fun x21=>
    if (!x21.1)=true then
     some ((v8++[x16.1]),x21.2)
    else
     zbU zbz n a1 c11 (v8++[x16.1]) x21.2
   else
    some (v8,v9)
def zc6 (zbz:zac->Int->Option (zab × zac)) (n:Nat) (a0:zac) (a1:Int):Option ((List zab) × zac):=
 (zaL n a0 ([40]:Str)).bind fun x1=>
 (zaT n x1 ([41]:Str)).bind fun x3=>
 if x3.1=true then
  some ([],x3.2)
 else
  ((zbU zbz n a1 n [] x3.2).bind fun y10=>
    some (y10.1,y10.2)).bind fun y6=>
  (zaL n y6.2 ([41]:Str)).bind fun x27=>
  some (y6.1,x27)
def zfe (za8:zac->Int->Int->Option (zab × zac)) (n:Nat) (a0:zac) (a1:Int):Option (zab × zac):=
 (za8 a0 (0:Int) a1).bind fun x2=>
 some (x2.1,x2.2)
def zcU (za8:zac->Int->Int->Option (zab × zac)) (n:Nat) (a1:Int) (a2:Int):Nat->Str->zac->zab->Option (zac × zab)
 | 0,_,_,_=>none
 | c15+1,v11,v12,v13=>
   if (decide (v11 ≠ ([]:Str)))=true then
    (zbW v12 (19:Int)).bind fun x20=>
    (zaL n x20.2 v11).bind fun x23=>
    (za8 x23 (IntKind.i64.wrap (a1+(1:Int))) a2).bind fun x25=>
    if (a1 == (3:Int))=true then
     some (x25.2,({ x20.1 with zbp:=v11,zay:=[v13,x25.1] }:zab))
    else
     (zez n x25.2 a1).bind fun x28=>
     zcU za8 n a1 a2 c15 x28 x25.2 ({ x20.1 with zbp:=v11,zay:=[v13,x25.1] }:zab)
   else
    some (v12,v13)
def zeT (za7:zac->Int->Option (zab × zac)) (za8:zac->Int->Int->Option (zab × zac)) (n:Nat) (a0:zac) (a1:Int) (a2:Int):Option (zab × zac):=
 if (a1 == (7:Int))=true then
  (za7 a0 a2).bind fun x3=>
  some (x3.1,x3.2)
 else
  (za8 a0 (IntKind.i64.wrap (a1+(1:Int))) a2).bind fun x5=>
  (zez n x5.2 a1).bind fun x8=>
  (zcU za8 n a1 a2 n x8 x5.2 x5.1).bind fun y14=>
  some (y14.2,y14.1)
def zfD:List Str:=[([126]:Str),([45]:Str)]
def zcy (za7:zac->Int->Option (zab × zac)) (n:Nat) (a1:Int):Nat->Int->zac->zab->zab->Option ((zac × zab × zab) ⊕ (zab × zac))
 | 0,_,_,_,_=>none
 | c23+1,v18,v19,v20,v21=>
   if (decide (v18<(2:Int)))=true then
    (idxL zfD v18).bind fun x28=>
    (zaT n v19 x28).bind fun x37=>
    if x37.1=true then
     (za7 x37.2 (IntKind.i64.wrap (a1+(1:Int)))).bind fun x40=>
     some (.inr (({ v20 with zbE:=(18:Int),zbp:=x28,zay:=[x40.1] }:zab),x40.2))
    else
     zcy za7 n a1 c23 (IntKind.i64.wrap (v18+(1:Int))) x37.2 v20 v21
   else
    some (.inl (v19,v20,v21))
def zej (zbD:zac->Int->Option (zab × zac)) (za7:zac->Int->Option (zab × zac)) (zcd:zac->Int->Option ((List zab) × zac)) (n:Nat) (a0:zac) (a1:Int):Option (zab × zac):=
 (zeB a0 a1).bind fun x4=>
 (zaT n x4 ([40]:Str)).bind fun x6=>
 if x6.1=true then
  (zbD x6.2 (IntKind.i64.wrap (a1+(1:Int)))).bind fun x9=>
  (zaL n x9.2 ([41]:Str)).bind fun x12=>
  some (x9.1,x12)
 else
  (zbW x6.2 (15:Int)).bind fun x14=>
  (zcy za7 n a1 n (0:Int) x14.2 x14.1 (zab.mk (0:Int) (0:Int) [] (0:Int) [])).bind fun y22=>
  y22.elim (fun y22a=>
   (if (y22a.1.e_ == (0:Int))=true then
      (zbP y22a.1).bind fun x72=>
      some (x72.zbE == (2:Int))
     else
      some false).bind fun y70=>
   if y70=true then
    (zd2 y22a.1).bind fun x78=>
    some (({ y22a.2.1 with zbE:=(14:Int),Num_:=x78.1 }:zab),x78.2)
   else
    (zbX n y22a.1).bind fun x80=>
    ((zdk n x80.2 ([40]:Str)).bind fun x83=>
      if x83=true then
       (zcd x80.2 a1).bind fun x86=>
       some (x86.2,({ y22a.2.1 with zbE:=(17:Int),zbp:=x80.1,zay:=x86.1 }:zab))
      else
       (zaT n x80.2 ([91]:Str)).bind fun x88=>
       if x88.1=true then
        (zbD x88.2 (IntKind.i64.wrap (a1+(1:Int)))).bind fun x91=>
        (zaL n x91.2 ([93]:Str)).bind fun x93=>
        some (x93,({ y22a.2.1 with zbE:=(16:Int),zbp:=x80.1,zay:=[x91.1] }:zab))
       else
        some (x88.2,({ y22a.2.1 with zbp:=x80.1 }:zab))).bind fun y82=>
    some (y82.2,y82.1)) (fun y22a=>
   some y22a)
def zdZ (zbD:zac->Int->Option (zab × zac)) (n:Nat) (a0:zac) (a1:Int):Option (zab × zac):=
 (zbD a0 (IntKind.i64.wrap (a1+(1:Int)))).bind fun x2=>
 some (x2.1,x2.2)
def zaS:Nat->(zac->Int->Option ((List zab) × zac)) × (zac->Int->Option (zab × zac)) × (zac->Int->Int->Option (zab × zac)) × (zac->Int->Option (zab × zac)) × (zac->Int->Option (zab × zac))
 | 0=>(fun _ _=>none,fun _ _=>none,fun _ _ _=>none,fun _ _=>none,fun _ _=>none)
 | n+1=>(zc6 (zaS n).2.2.2.2 n,zfe (zaS n).2.2.1 n,zeT (zaS n).2.2.2.1 (zaS n).2.2.1 n,zej (zaS n).2.1 (zaS n).2.2.2.1 (zaS n).1 n,zdZ (zaS n).2.1 n)
def zgs (n:Nat):zac->Int->Option ((List zab) × zac):=(zaS n).1
def zbM (n:Nat):zac->Int->Option (zab × zac):=(zaS n).2.1
def zjQ (n:Nat):zac->Int->Int->Option (zab × zac):=(zaS n).2.2.1
def ziZ (n:Nat):zac->Int->Option (zab × zac):=(zaS n).2.2.2.1
def zh1 (n:Nat):zac->Int->Option (zab × zac):=(zaS n).2.2.2.2
def zec (n:Nat) (a0:zac) (a1:zab) (a2:Int):Option (zab × zac):=
 (zbX n a0).bind fun x3=>
 (zaL n x3.2 ([61]:Str)).bind fun x5=>
 (zbM n x5 a2).bind fun x7=>
 (zaL n x7.2 ([59]:Str)).bind fun x9=>
 some (({ a1 with zbp:=x3.1,zay:=[x7.1] }:zab),x9)
def zeS (n:Nat) (a0:zac) (a1:Int):Option (zab × zac):=
 (zbM n a0 (IntKind.i64.wrap (a1+(2:Int)))).bind fun x2=>
 some (x2.1,x2.2)
def zb6 (n:Nat) (a1:Int):Nat->(List zab)->zac->Option ((List zab) × zac)
 | 0,_,_=>none
 | c11+1,v8,v9=>
   if (v9.e_ == (0:Int))=true then
    (zeS n v9 a1).bind fun x16=>
    need (v8.length+[x16.1].length<=1073741824) <|
    (zaT n x16.2 ([44]:Str)).bind fun x21=>
    if (!x21.1)=true then
     some ((v8++[x16.1]),x21.2)
    else
     zb6 n a1 c11 (v8++[x16.1]) x21.2
   else
    some (v8,v9)
def zdK (n:Nat) (a0:zac) (a1:Int):Option ((List zab) × zac):=
 (zaL n a0 ([40]:Str)).bind fun x1=>
 (zaT n x1 ([41]:Str)).bind fun x3=>
 if x3.1=true then
  some ([],x3.2)
 else
  ((zb6 n a1 n [] x3.2).bind fun y10=>
    some (y10.1,y10.2)).bind fun y6=>
  (zaL n y6.2 ([41]:Str)).bind fun x27=>
  some (y6.1,x27)
def zfy (n:Nat) (a0:zac) (a1:zab) (a2:Int):Option (zab × zac):=
 (zbX n a0).bind fun x5=>
 ((zdk n x5.2 ([40]:Str)).bind fun x8=>
   if x8=true then
    (zdK n x5.2 a2).bind fun x11=>
    some (x11.2,({ a1 with zbE:=(10:Int),zbp:=x5.1,zay:=x11.1 }:zab))
   else
    (zaT n x5.2 ([91]:Str)).bind fun x13=>
    if x13.1=true then
     (zbM n x13.2 (IntKind.i64.wrap (a2+(2:Int)))).bind fun x16=>
     (zaL n x16.2 ([93]:Str)).bind fun x18=>
     (zaL n x18 ([61]:Str)).bind fun x20=>
     (zbM n x20 (IntKind.i64.wrap (a2+(1:Int)))).bind fun x22=>
     need ([x16.1].length+[x22.1].length<=1073741824) <|
     some (x22.2,({ a1 with zbE:=(9:Int),zbp:=x5.1,zay:=([x16.1]++[x22.1]) }:zab))
    else
     (zaL n x13.2 ([61]:Str)).bind fun x25=>
     (zbM n x25 (IntKind.i64.wrap (a2+(1:Int)))).bind fun x27=>
     some (x27.2,({ a1 with zbp:=x5.1,zay:=[x27.1] }:zab))).bind fun y7=>
 (zaL n y7.1 ([59]:Str)).bind fun x32=>
 some (y7.2,x32)
def zcV (zby:zac->Int->Option (zab × zac)) (n:Nat) (a1:Int):Nat->zac->zab->Option (zac × zab)
 | 0,_,_=>none
 | c13+1,v10,v11=>
   (if (v10.e_ == (0:Int))=true then
      (zdk n v10 ([125]:Str)).bind fun x19=>
      some (!x19)
     else
      some false).bind fun y17=>
   if y17=true then
    (zby v10 a1).bind fun x25=>
    need (v11.zay.length+[x25.1].length<=1073741824) <|
    zcV zby n a1 c13 x25.2 ({ v11 with zay:=(v11.zay++[x25.1]) }:zab)
   else
    some (v10,v11)
def zeU (zby:zac->Int->Option (zab × zac)) (n:Nat) (a0:zac) (a1:Int):Option (zab × zac):=
 (zeB a0 a1).bind fun x2=>
 (zbW x2 (4:Int)).bind fun x4=>
 (zaL n x4.2 ([123]:Str)).bind fun x7=>
 (zcV zby n a1 n x7 x4.1).bind fun y12=>
 (zaL n y12.1 ([125]:Str)).bind fun x32=>
 some (y12.2,x32)
def zdX (zdm:zac->zab->Int->Option (zab × zac)) (zdJ:zac->zab->Int->Option (zab × zac)) (n:Nat) (a0:zac) (a1:Int):Option (zab × zac):=
 (zbW a0 (8:Int)).bind fun x2=>
 ((zaT n x2.2 ([108,101,116]:Str)).bind fun x6=>
   if x6.1=true then
    (zec n x6.2 ({ x2.1 with zbE:=(5:Int) }:zab) (IntKind.i64.wrap (a1+(1:Int)))).bind fun x9=>
    some (.inr (x9.1,x9.2))
   else
    (zaT n x6.2 ([118,97,114]:Str)).bind fun x11=>
    if x11.1=true then
     (zec n x11.2 ({ x2.1 with zbE:=(6:Int) }:zab) (IntKind.i64.wrap (a1+(1:Int)))).bind fun x14=>
     some (.inr (x14.1,x14.2))
    else
     (zaT n x11.2 ([97,114,114]:Str)).bind fun x16=>
     if x16.1=true then
      (zbX n x16.2).bind fun x19=>
      (zey n x19.2).bind fun x21=>
      some (.inl (x21.2,({ x2.1 with zbE:=(7:Int),zbp:=x19.1,Num_:=x21.1 }:zab)))
     else
      (zaT n x16.2 ([114,101,116,117,114,110]:Str)).bind fun x23=>
      if x23.1=true then
       (zbM n x23.2 (IntKind.i64.wrap (a1+(1:Int)))).bind fun x26=>
       some (.inl (x26.2,({ x2.1 with zbE:=(13:Int),zay:=[x26.1] }:zab)))
      else
       (zaT n x23.2 ([105,102]:Str)).bind fun x28=>
       if x28.1=true then
        (zdm x28.2 x2.1 a1).bind fun x31=>
        some (.inr (x31.1,x31.2))
       else
        (zaT n x28.2 ([102,111,114]:Str)).bind fun x33=>
        if x33.1=true then
         (zdJ x33.2 x2.1 a1).bind fun x36=>
         some (.inr (x36.1,x36.2))
        else
         (zfy n x33.2 x2.1 a1).bind fun x38=>
         some (.inr (x38.1,x38.2)):Option ((zac × zab) ⊕ (zab × zac))).bind fun y5=>
 y5.elim (fun y5a=>
  (zaL n y5a.1 ([59]:Str)).bind fun x43=>
  some (y5a.2,x43)) (fun y5a=>
  some y5a)
def zeC (zbx:zac->Int->Option (zab × zac)) (n:Nat) (a0:zac) (a1:zab) (a2:Int):Option (zab × zac):=
 (zbM n a0 (IntKind.i64.wrap (a2+(1:Int)))).bind fun x3=>
 (zbx x3.2 (IntKind.i64.wrap (a2+(1:Int)))).bind fun x5=>
 need ([x3.1].length+[x5.1].length<=1073741824) <|
 (zaT n x5.2 ([101,108,115,101]:Str)).bind fun x8=>
 if x8.1=true then
  (zbx x8.2 (IntKind.i64.wrap (a2+(1:Int)))).bind fun x11=>
  need (([x3.1]++[x5.1]).length+[x11.1].length<=1073741824) <|
  some (({ a1 with zbE:=(11:Int),zay:=(([x3.1]++[x5.1])++[x11.1]) }:zab),x11.2)
 else
  some (({ a1 with zbE:=(11:Int),zay:=([x3.1]++[x5.1]) }:zab),x8.2)
def zfc (zbx:zac->Int->Option (zab × zac)) (n:Nat) (a0:zac) (a1:zab) (a2:Int):Option (zab × zac):=
 (zbX n a0).bind fun x3=>
 (zaL n x3.2 ([105,110]:Str)).bind fun x5=>
 (zbM n x5 (IntKind.i64.wrap (a2+(1:Int)))).bind fun x7=>
 (zaL n x7.2 ([46,46]:Str)).bind fun x9=>
 (zbM n x9 (IntKind.i64.wrap (a2+(1:Int)))).bind fun x11=>
 need ([x7.1].length+[x11.1].length<=1073741824) <|
 (zbx x11.2 (IntKind.i64.wrap (a2+(1:Int)))).bind fun x14=>
 need (([x7.1]++[x11.1]).length+[x14.1].length<=1073741824) <|
 some (({ a1 with zbE:=(12:Int),zbp:=x3.1,zay:=(([x7.1]++[x11.1])++[x14.1]) }:zab),x14.2)
def zbG:Nat->(zac->Int->Option (zab × zac)) × (zac->Int->Option (zab × zac)) × (zac->zab->Int->Option (zab × zac)) × (zac->zab->Int->Option (zab × zac))
 | 0=>(fun _ _=>none,fun _ _=>none,fun _ _ _=>none,fun _ _ _=>none)
 | n+1=>(zeU (zbG n).2.1 n,zdX (zbG n).2.2.1 (zbG n).2.2.2 n,zeC (zbG n).1 n,zfc (zbG n).1 n)
def zcg (n:Nat):zac->Int->Option (zab × zac):=(zbG n).1
def zhZ (n:Nat):zac->Int->Option (zab × zac):=(zbG n).2.1
def zjr (n:Nat):zac->zab->Int->Option (zab × zac):=(zbG n).2.2.1
def zkh (n:Nat):zac->zab->Int->Option (zab × zac):=(zbG n).2.2.2
def zeA (n:Nat) (a0:zac):Option (zab × zac):=
 (zbW a0 (2:Int)).bind fun x2=>
 (zaT n x2.2 ([101,120,112,111,114,116]:Str)).bind fun x5=>
 if x5.1=true then
  (zaL n x5.2 ([102,110]:Str)).bind fun x8=>
  (zbX n x8).bind fun x10=>
  (zdb n x10.2).bind fun x12=>
  (zaT n x12.2 ([45,62]:Str)).bind fun x14=>
  if x14.1=true then
   (zaT n x14.2 ([117,51,50]:Str)).bind fun x17=>
   if x17.1=true then
    (zcg n x17.2 (1:Int)).bind fun x20=>
    need (x12.1.length+[x20.1].length<=1073741824) <|
    some (({ x2.1 with zbp:=x10.1,Num_:=(orK .u32 (1:Int) (2:Int)),zay:=(x12.1++[x20.1]) }:zab),x20.2)
   else
    (zaL n x17.2 ([117,54,52]:Str)).bind fun x25=>
    (zcg n x25 (1:Int)).bind fun x27=>
    need (x12.1.length+[x27.1].length<=1073741824) <|
    some (({ x2.1 with zbp:=x10.1,Num_:=(orK .u32 (1:Int) (4:Int)),zay:=(x12.1++[x27.1]) }:zab),x27.2)
  else
   (zcg n x14.2 (1:Int)).bind fun x32=>
   need (x12.1.length+[x32.1].length<=1073741824) <|
   some (({ x2.1 with zbp:=x10.1,Num_:=(1:Int),zay:=(x12.1++[x32.1]) }:zab),x32.2)
 else
  (zaL n x5.2 ([102,110]:Str)).bind fun x37=>
  (zbX n x37).bind fun x39=>
  (zdb n x39.2).bind fun x41=>
  (zaT n x41.2 ([45,62]:Str)).bind fun x43=>
  if x43.1=true then
   (zaT n x43.2 ([117,51,50]:Str)).bind fun x46=>
   if x46.1=true then
    (zcg n x46.2 (1:Int)).bind fun x49=>
    need (x41.1.length+[x49.1].length<=1073741824) <|
    some (({ x2.1 with zbp:=x39.1,Num_:=(orK .u32 x2.1.Num_ (2:Int)),zay:=(x41.1++[x49.1]) }:zab),x49.2)
   else
    (zaL n x46.2 ([117,54,52]:Str)).bind fun x54=>
    (zcg n x54 (1:Int)).bind fun x56=>
    need (x41.1.length+[x56.1].length<=1073741824) <|
    some (({ x2.1 with zbp:=x39.1,Num_:=(orK .u32 x2.1.Num_ (4:Int)),zay:=(x41.1++[x56.1]) }:zab),x56.2)
  else
   (zcg n x43.2 (1:Int)).bind fun x61=>
   need (x41.1.length+[x61.1].length<=1073741824) <|
   some (({ x2.1 with zbp:=x39.1,zay:=(x41.1++[x61.1]) }:zab),x61.2)
def zfC (n:Nat):Nat->zac->zab->Option (zac × zab)
 | 0,_,_=>none
 | c13+1,v10,v11=>
   (if (v10.e_ == (0:Int))=true then
      (zbP v10).bind fun x19=>
      some (x19.zbE != (4:Int))
     else
      some false).bind fun y17=>
   if y17=true then
    (zeA n v10).bind fun x25=>
    need (v11.zay.length+[x25.1].length<=1073741824) <|
    zfC n c13 x25.2 ({ v11 with zay:=(v11.zay++[x25.1]) }:zab)
   else
    some (v10,v11)
def zkf (n:Nat) (a0:Str):Option (zab × Int × Int):=
 (zkN n a0).bind fun x2=>
 if (x2.2.1 != (0:Int))=true then
  some ((zab.mk (0:Int) (0:Int) [] (0:Int) []),x2.2.1,x2.2.2)
 else
  (zbW (zac.mk x2.1 (0:Int) (0:Int) (0:Int) (0:Int)) (1:Int)).bind fun x6=>
  (zfC n n x6.2 x6.1).bind fun y12=>
  if (y12.1.e_ != (0:Int))=true then
   some ((zab.mk (0:Int) (0:Int) [] (0:Int) []),y12.1.e_,y12.1.zjY)
  else
   some (y12.2,(0:Int),(0:Int))
def zjV (a0:zaH) (a1:Str):Option Bool:=
 some (decide (a0.zgB=a1))
def zbj (a0:(List zaH)) (a1:Str):Nat->Int->Option (Unit ⊕ Int)
 | 0,_=>none
 | c4+1,v2=>
   if (decide (v2<(a0.length:Int)))=true then
    (idxL a0 v2).bind fun x9=>
    (zjV x9 a1).bind fun x10=>
    if x10=true then
     some (.inr v2)
    else
     zbj a0 a1 c4 (IntKind.i64.wrap (v2+(1:Int)))
   else
    some (.inl ())
def zbS (n:Nat) (a0:(List zaH)) (a1:Str):Option Int:=
 (zbj a0 a1 n (0:Int)).bind fun y3=>
 y3.elim (fun y3a=>
  some (-1:Int)) (fun y3a=>
  some y3a)
def ze9 (n:Nat) (a0:zat) (a1:Str):Option (Int × Bool):=
 (zbS n a0.zbo a1).bind fun x3=>
 some ((max x3 (0:Int)),(decide ((0:Int)<=x3)))
def zfA (a0:zad) (a1:zaj) (a2:Int) (a3:Int):Option zaj:=
 if (a1.e_ == (0:Int))=true then
  some (zaj.mk a2 a3)
 else
  some a1
def zar (a0:zad) (a1:zaj) (a2:Bool) (a3:Int) (a4:Int):Option zaj:=
 if (!a2)=true then
  (zfA a0 a1 a3 a4).bind fun x2=>
  some x2
 else
  some a1
def zf3 (a0:Str):Nat->Int->Option (Unit ⊕ Int)
 | 0,_=>none
 | c4+1,v2=>
   if (decide (v2<(5:Int)))=true then
    (idxL za6 v2).bind fun x9=>
    if (decide (x9.name_=a0))=true then
     some (.inr x9.args_)
    else
     zf3 a0 c4 (IntKind.i64.wrap (v2+(1:Int)))
   else
    some (.inl ())
def zim (n:Nat) (a0:Str):Option Int:=
 (zf3 a0 n (0:Int)).bind fun y3=>
 y3.elim (fun y3a=>
  some (0:Int)) (fun y3a=>
  some y3a)
def zjz (a0:Int):Option Int:=
 if ((andK .u32 a0 (2:Int)) != (0:Int))=true then
  some (2:Int)
 else
  if ((andK .u32 a0 (4:Int)) != (0:Int))=true then
   some (3:Int)
  else
   some (0:Int)
def zcM (n:Nat) (a2:zab):Nat->Int->zad->zaj->Option (zad × zaj)
 | 0,_,_,_=>none
 | c9+1,v5,v6,v7=>
   if (decide (v5<(a2.zay.length:Int)))=true then
    (idxL a2.zay v5).bind fun x14=>
    (ze9 n v6.p_ x14.zbp).bind fun x20=>
    (if (!x20.2)=true then
       (zim n x14.zbp).bind fun x25=>
       (zar v6 v7 (x25 == (0:Int)) (131:Int) x14.At_).bind fun x26=>
       some x26
      else
       (zar v6 v7 false (131:Int) x14.At_).bind fun x29=>
       some x29).bind fun y23=>
    (zjz x14.Num_).bind fun x34=>
    need (v6.f_<0) <|
    need (v6.p_.zbo.length+1<=1073741824) <|
    zcM n a2 c9 (IntKind.i64.wrap (v5+(1:Int))) ({ v6 with p_:=⟨(v6.p_.zbo++[(zaH.mk x14.zbp ((andK .u32 x14.Num_ (1:Int)) != (0:Int)) x34 (0:Int) [] [])])⟩ }:zad) y23
   else
    some (v6,v7)
def zfj (n:Nat) (a0:zad) (a1:zaj) (a2:zab):Option (zad × zaj):=
 (zar a0 a1 (decide ((a2.zay.length:Int)<=(64:Int))) (136:Int) a2.At_).bind fun x2=>
 (zcM n a2 n (0:Int) a0 x2).bind fun y8=>
 need ((0:Int)<=(a2.zay.length:Int)/\(a2.zay.length:Int)<=1073741824) <|
 some (({ y8.1 with zbR:=(List.replicate a2.zay.length []) }:zad),y8.2)
def zcN (x1:zaH):Nat->Int->zad->Option zad
 | 0,_,_=>none
 | c31+1,v28,v29=>
   if (decide (v28<x1.zbf))=true then
    need (v29.zaW.length+1<=1073741824) <|
    zcN x1 c31 (IntKind.i64.wrap (v28+(1:Int))) ({ v29 with zaW:=(v29.zaW++[v28]) }:zad)
   else
    some v29
def zd3 (n:Nat) (a0:zad) (a1:zaj) (a2:Int):Option (zad × zaj):=
 (idxL a0.p_.zbo a2).bind fun x1=>
 (zcN x1 n (0:Int) ({ a0 with f_:=a2,zaW:=[],at_:=a2 }:zad)).bind fun y30=>
 some (y30,a1)
def ziO (a0:Int):Option Bool:=
 (if (decide ((1:Int)<=a0))=true then
    if (decide (a0<=(255:Int)))=true then
     some true
    else
     if (decide ((255:Int)<a0))=true then
      if (decide (a0<=(1024:Int)))=true then
       some ((a0.tmod (4:Int)) == (0:Int))
      else
       some false
     else
      some false
   else
    if (decide ((255:Int)<a0))=true then
     if (decide (a0<=(1024:Int)))=true then
      some ((a0.tmod (4:Int)) == (0:Int))
     else
      some false
    else
     some false).bind fun y1=>
 some y1
def zcY (a0:zad) (a2:Str):Nat->Int->Option (Unit ⊕ Int)
 | 0,_=>none
 | c5+1,v3=>
   if (decide ((0:Int)<=v3))=true then
    (idxL a0.p_.zbo a0.f_).bind fun x10=>
    (idxL a0.zaW v3).bind fun x13=>
    (idxL x10.zbe x13).bind fun x14=>
    if (decide (x14.zgB=a2))=true then
     some (.inr x13)
    else
     zcY a0 a2 c5 (IntKind.i64.wrap (v3 - (1:Int)))
   else
    some (.inl ())
def zef (n:Nat) (a0:zad) (a1:zaj) (a2:Str):Option Int:=
 (zcY a0 a2 n (IntKind.i64.wrap ((a0.zaW.length:Int) - (1:Int)))).bind fun y4=>
 y4.elim (fun y4a=>
  some (-1:Int)) (fun y4a=>
  some y4a)
def zbJ (n:Nat) (a0:zad) (a1:zaj) (a2:zaD) (a3:Int):Option (Int × zad × zaj):=
 (zef n a0 a1 a2.zgB).bind fun x2=>
 (zar a0 a1 (decide (x2<(0:Int))) (131:Int) a3).bind fun x3=>
 (idxL a0.p_.zbo a0.f_).bind fun x6=>
 (zar a0 x3 (decide ((x6.zbe.length:Int)<(250:Int))) (136:Int) a3).bind fun x9=>
 if (x9.e_ != (0:Int))=true then
  some ((-1:Int),a0,x9)
 else
  need (x6.zbe.length+1<=1073741824) <|
  need (a0.zaW.length+1<=1073741824) <|
  some ((x6.zbe.length:Int),({ a0 with p_:=⟨(a0.p_.zbo.set a0.f_.toNat { x6 with zbe:=(x6.zbe++[a2]) })⟩,zaW:=(a0.zaW++[(x6.zbe.length:Int)]) }:zad),x9)
def zcB (n:Nat) (a2:(List zab)):Nat->Int->zad->zaj->Option (zad × zaj)
 | 0,_,_,_=>none
 | c6+1,v2,v3,v4=>
   if (decide (v2<(a2.length:Int)))=true then
    ((idxL a2 v2).bind fun x12=>
      (if ((IntKind.i64.wrap x12.Num_) == (4:Int))=true then
         some (decide ((0:Int)<(x12.zay.length:Int)))
        else
         some false).bind fun y19=>
      if y19=true then
       (idxL x12.zay (0:Int)).bind fun x25=>
       (ziO (IntKind.i64.wrap x25.Num_)).bind fun x31=>
       (zar v3 v4 x31 (136:Int) x12.At_).bind fun x32=>
       (zbJ n v3 x32 (zaD.mk x12.zbp (IntKind.i64.wrap x12.Num_) (IntKind.i64.wrap x25.Num_)) x12.At_).bind fun x35=>
       some (x35.2.1,x35.2.2)
      else
       (zbJ n v3 v4 (zaD.mk x12.zbp (IntKind.i64.wrap x12.Num_) (0:Int)) x12.At_).bind fun x37=>
       some (x37.2.1,x37.2.2)).bind fun y11=>
    zcB n a2 c6 (IntKind.i64.wrap (v2+(1:Int))) y11.1 y11.2
   else
    some (v3,v4)
def zeX (n:Nat) (a0:zad) (a1:zaj) (a2:(List zab)):Option (zad × zaj):=
 (zcB n a2 n (0:Int) a0 a1).bind fun y5=>
 (idxL y5.1.p_.zbo y5.1.f_).bind fun x61=>
 some (({ y5.1 with p_:=⟨(y5.1.p_.zbo.set y5.1.f_.toNat { x61 with zbf:=(x61.zbe.length:Int) })⟩ }:zad),y5.2)
def zdT (a0:zaH):Nat->Int->Int->Option Int
 | 0,_,_=>none
 | c8+1,v5,v6=>
   if (decide (v6<((a0.zbe.take a0.zbf.toNat).length:Int)))=true then
    ((idxL (a0.zbe.take a0.zbf.toNat) v6).bind fun x14=>
      if (x14.zbE == (3:Int))=true then
       some (IntKind.i64.wrap ((IntKind.i64.wrap (v5+(IntKind.i64.wrap ((v5.tmod (2:Int))+(1:Int)))))+(1:Int)))
      else
       some (IntKind.i64.wrap (v5+(1:Int)))).bind fun y13=>
    zdT a0 c8 y13 (IntKind.i64.wrap (v6+(1:Int)))
   else
    some v5
def zgK (n:Nat) (a0:zaH):Option Int:=
 need ((0:Int)<=a0.zbf/\a0.zbf<=(a0.zbe.length:Int)) <|
 (zdT a0 n (0:Int) (0:Int)).bind fun y7=>
 some y7
def zee (n:Nat) (a0:zad) (a1:zaj) (a2:Int) (a3:zab):Option (zad × zaj):=
 (zd3 n a0 a1 a2).bind fun x2=>
 need ((0:Int)<=(max (IntKind.i64.wrap ((a3.zay.length:Int) - (1:Int))) (0:Int))/\(max (IntKind.i64.wrap ((a3.zay.length:Int) - (1:Int))) (0:Int))<=(a3.zay.length:Int)) <|
 (zeX n x2.1 x2.2 (a3.zay.take (max (IntKind.i64.wrap ((a3.zay.length:Int) - (1:Int))) (0:Int)).toNat)).bind fun x4=>
 if (x4.2.e_ == (0:Int))=true then
  ((idxL x4.1.p_.zbo x4.1.f_).bind fun x10=>
    if (!x10.zgl)=true then
     (zar x4.1 x4.2 true (136:Int) a3.At_).bind fun x27=>
     some x27
    else
     (zgK n x10).bind fun x29=>
     (zar x4.1 x4.2 (decide (x29<=(4:Int))) (136:Int) a3.At_).bind fun x30=>
     some x30).bind fun y9=>
  some (x4.1,y9)
 else
  some (x4.1,x4.2)
def zb4 (a0:zad) (a1:zaj) (a2:Int):Option Int:=
 if (decide (a2<(0:Int)))=true then
  some (0:Int)
 else
  (idxL a0.p_.zbo a0.f_).bind fun x2=>
  (idxL x2.zbe a2).bind fun x5=>
  some x5.zbE
def zcu (n:Nat) (a0:zad) (a1:zaj) (a2:zab):Option (Int × zaj):=
 (zef n a0 a1 a2.zbp).bind fun x2=>
 (zar a0 a1 (decide ((0:Int)<=x2)) (130:Int) a2.At_).bind fun x4=>
 some (x2,x4)
def zhv (a0:Int) (a1:Int):Option Int:=
 (if (a0 == a1)=true then
    if (decide ((1:Int)<=a0))=true then
     some (decide (a0<=(3:Int)))
    else
     some false
   else
    some false).bind fun y1=>
 if y1=true then
  some a0
 else
  (if (a0 == (1:Int))=true then
     if (a1 == (2:Int))=true then
      some true
     else
      if (a0 == (2:Int))=true then
       some (a1 == (1:Int))
      else
       some false
    else
     if (a0 == (2:Int))=true then
      some (a1 == (1:Int))
     else
      some false).bind fun y8=>
  if y8=true then
   some (2:Int)
  else
   some (0:Int)
def zbb (a0:zad) (a1:zaj) (a2:zag) (a3:Int):Option (zag × zaj):=
 (zar a0 a1 (a3 != (0:Int)) (132:Int) a2.At_).bind fun x3=>
 some (({ a2 with zcR:=a3 }:zag),x3)
def zds (a0:zad) (a1:zaj) (a2:zag) (a3:zag) (a4:zag):Option (zag × zaj):=
 (zar a0 a1 (a4.zcR == (1:Int)) (133:Int) a4.At_).bind fun x5=>
 if (a3.zcR == (3:Int))=true then
  (if (decide (a4.Op_=([110,117,109]:Str)))=true then
     (zar a0 x5 (decide (a4.N_<=(63:Int))) (132:Int) a2.At_).bind fun x10=>
     some x10
    else
     (zar a0 x5 false (132:Int) a2.At_).bind fun x12=>
     some x12).bind fun y8=>
  (zbb a0 y8 a2 a3.zcR).bind fun x17=>
  some (x17.1,x17.2)
 else
  (zbb a0 x5 a2 a3.zcR).bind fun x19=>
  some (x19.1,x19.2)
def zhu (a0:Int):Option Int:=
 if (a0 == (1:Int))=true then
  some (2:Int)
 else
  some a0
def zfP (a0:Int):Option Bool:=
 (if (a0 == (1:Int))=true then
    some true
   else
    some (a0 == (2:Int))).bind fun y1=>
 some y1
def ze3 (a0:zad) (a1:zaj) (a2:zag):Option Int:=
 (idxL a2.zay (1:Int)).bind fun x2=>
 (idxL a2.zay (2:Int)).bind fun x3=>
 (zhv x2.zcR x3.zcR).bind fun x4=>
 ((idxL a2.zay (0:Int)).bind fun x17=>
   (zfP x17.zcR).bind fun x18=>
   if (!x18)=true then
    some true
   else
    some (x4 == (0:Int))).bind fun y16=>
 if y16=true then
  some (0:Int)
 else
  (zhu x4).bind fun x30=>
  some x30
def ze2 (zdz:zad->zaj->zab->zag->Option (zag × zaj)) (zdo:zad->zaj->zab->zag->Option (zag × zaj)) (zda:zad->zaj->zab->zag->Option (zag × zaj)) (zcS:zad->zaj->zab->zag->Option (zag × zaj)) (n:Nat) (a0:zad) (a1:zaj) (a2:zab):Option (zag × zaj):=
 if (a2.zbE == (14:Int))=true then
  some ((zag.mk ([110,117,109]:Str) (1:Int) a2.Num_ (-1:Int) [] a2.At_),a1)
 else
  if (a2.zbE == (15:Int))=true then
   (zcu n a0 a1 a2).bind fun x6=>
   (zb4 a0 x6.2 x6.1).bind fun x8=>
   (zar a0 x6.2 (x8 != (4:Int)) (132:Int) a2.At_).bind fun x10=>
   some ((zag.mk ([118,97,114]:Str) x8 (0:Int) x6.1 [] a2.At_),x10)
  else
   if (a2.zbE == (16:Int))=true then
    (zdz a0 a1 a2 (zag.mk [] (0:Int) (0:Int) (-1:Int) [] a2.At_)).bind fun x13=>
    some (x13.1,x13.2)
   else
    if (a2.zbE == (18:Int))=true then
     (zdo a0 a1 a2 (zag.mk [] (0:Int) (0:Int) (-1:Int) [] a2.At_)).bind fun x16=>
     some (x16.1,x16.2)
    else
     if (a2.zbE == (19:Int))=true then
      (zda a0 a1 a2 (zag.mk [] (0:Int) (0:Int) (-1:Int) [] a2.At_)).bind fun x19=>
      some (x19.1,x19.2)
     else
      (zcS a0 a1 a2 (zag.mk [] (0:Int) (0:Int) (-1:Int) [] a2.At_)).bind fun x21=>
      some (x21.1,x21.2)
def ze0 (zbg:zad->zaj->zab->Option (zag × zaj)) (n:Nat) (a0:zad) (a1:zaj) (a2:zab) (a3:zag):Option (zag × zaj):=
 (idxL a2.zay (0:Int)).bind fun x4=>
 (zbg a0 a1 x4).bind fun x5=>
 (zcu n a0 x5.2 a2).bind fun x13=>
 (zb4 a0 x13.2 x13.1).bind fun x15=>
 (zar a0 x13.2 (x15 == (4:Int)) (132:Int) a2.At_).bind fun x16=>
 (zar a0 x16 (x5.1.zcR == (1:Int)) (133:Int) x5.1.At_).bind fun x19=>
 (if (x19.e_ == (0:Int))=true then
    some (decide (x5.1.Op_=([110,117,109]:Str)))
   else
    some false).bind fun y21=>
 if y21=true then
  (idxL a0.p_.zbo a0.f_).bind fun x27=>
  (idxL x27.zbe x13.1).bind fun x30=>
  (zar a0 x19 (decide ((IntKind.i64.wrap x5.1.N_)<x30.zga)) (137:Int) x5.1.At_).bind fun x31=>
  some (({ a3 with Op_:=([105,110,100,101,120]:Str),zcR:=(2:Int),Var_:=x13.1,zay:=[x5.1] }:zag),x31)
 else
  some (({ a3 with Op_:=([105,110,100,101,120]:Str),zcR:=(2:Int),Var_:=x13.1,zay:=[x5.1] }:zag),x19)
def zeI (zbc:zad->zaj->(List zab)->Option ((List zag) × zaj)) (n:Nat) (a0:zad) (a1:zaj) (a2:zab) (a3:zag):Option (zag × zaj):=
 (zbc a0 a1 a2.zay).bind fun x4=>
 if (decide (a2.zbp=([45]:Str)))=true then
  (idxL x4.1 (0:Int)).bind fun x7=>
  some (({ a3 with Op_:=([110,101,103]:Str),zcR:=x7.zcR,zay:=x4.1 }:zag),x4.2)
 else
  (idxL x4.1 (0:Int)).bind fun x13=>
  some (({ a3 with Op_:=([110,111,116]:Str),zcR:=x13.zcR,zay:=x4.1 }:zag),x4.2)
def zeq (zbc:zad->zaj->(List zab)->Option ((List zag) × zaj)) (n:Nat) (a0:zad) (a1:zaj) (a2:zab) (a3:zag):Option (zag × zaj):=
 (zbc a0 a1 a2.zay).bind fun x4=>
 (idxL x4.1 (0:Int)).bind fun x6=>
 (idxL x4.1 (1:Int)).bind fun x9=>
 (zhv x6.zcR x9.zcR).bind fun x20=>
 if (decide (a2.zbp=([47]:Str)))=true then
  (zar a0 x4.2 (x6.zcR == (1:Int)) (133:Int) x6.At_).bind fun x23=>
  (zar a0 x23 (x9.zcR == (1:Int)) (133:Int) x9.At_).bind fun x25=>
  (zbb a0 x25 ({ a3 with Op_:=a2.zbp,zay:=x4.1 }:zag) (1:Int)).bind fun x27=>
  some (x27.1,x27.2)
 else
  if (decide (a2.zbp=([37]:Str)))=true then
   (zar a0 x4.2 (x6.zcR == (1:Int)) (133:Int) x6.At_).bind fun x30=>
   (zar a0 x30 (x9.zcR == (1:Int)) (133:Int) x9.At_).bind fun x32=>
   (zbb a0 x32 ({ a3 with Op_:=a2.zbp,zay:=x4.1 }:zag) (1:Int)).bind fun x34=>
   some (x34.1,x34.2)
  else
   if (decide (a2.zbp=([60,60]:Str)))=true then
    (zds a0 x4.2 ({ a3 with Op_:=a2.zbp,zay:=x4.1 }:zag) x6 x9).bind fun x37=>
    some (x37.1,x37.2)
   else
    if (decide (a2.zbp=([62,62]:Str)))=true then
     (zds a0 x4.2 ({ a3 with Op_:=a2.zbp,zay:=x4.1 }:zag) x6 x9).bind fun x40=>
     some (x40.1,x40.2)
    else
     if (decide (a2.zbp=([60,60,60]:Str)))=true then
      (zds a0 x4.2 ({ a3 with Op_:=a2.zbp,zay:=x4.1 }:zag) x6 x9).bind fun x43=>
      some (x43.1,x43.2)
     else
      if (decide (a2.zbp=([42]:Str)))=true then
       (zar a0 x4.2 (x20 != (3:Int)) (132:Int) a2.At_).bind fun x46=>
       (zbb a0 x46 ({ a3 with Op_:=a2.zbp,zay:=x4.1 }:zag) x20).bind fun x48=>
       some (x48.1,x48.2)
      else
       if (decide (a2.zbp=([61,61]:Str)))=true then
        if (x20 == (3:Int))=true then
         (zbb a0 x4.2 ({ a3 with Op_:=a2.zbp,zay:=x4.1 }:zag) (2:Int)).bind fun x52=>
         some (x52.1,x52.2)
        else
         (zbb a0 x4.2 ({ a3 with Op_:=a2.zbp,zay:=x4.1 }:zag) x20).bind fun x54=>
         some (x54.1,x54.2)
       else
        if (decide (a2.zbp=([60]:Str)))=true then
         if (x20 == (3:Int))=true then
          (zbb a0 x4.2 ({ a3 with Op_:=a2.zbp,zay:=x4.1 }:zag) (2:Int)).bind fun x58=>
          some (x58.1,x58.2)
         else
          (zbb a0 x4.2 ({ a3 with Op_:=a2.zbp,zay:=x4.1 }:zag) x20).bind fun x60=>
          some (x60.1,x60.2)
        else
         (zbb a0 x4.2 ({ a3 with Op_:=a2.zbp,zay:=x4.1 }:zag) x20).bind fun x62=>
         some (x62.1,x62.2)
def zd8 (zbc:zad->zaj->(List zab)->Option ((List zag) × zaj)) (n:Nat) (a0:zad) (a1:zaj) (a2:zab) (a3:zag):Option (zag × zaj):=
 (zim n a2.zbp).bind fun x4=>
 (zar a0 a1 (decide ((0:Int)<x4)) (130:Int) a2.At_).bind fun x6=>
 (zar a0 x6 ((a2.zay.length:Int) == x4) (136:Int) a2.At_).bind fun x8=>
 (zbc a0 x8 a2.zay).bind fun x10=>
 if (x10.2.e_ != (0:Int))=true then
  some (({ a3 with Op_:=a2.zbp,zay:=x10.1 }:zag),x10.2)
 else
  (idxL x10.1 (0:Int)).bind fun x13=>
  if (decide (a2.zbp=([115,101,108,101,99,116]:Str)))=true then
   (ze3 a0 x10.2 ({ a3 with Op_:=a2.zbp,zay:=x10.1 }:zag)).bind fun x20=>
   (zbb a0 x10.2 ({ a3 with Op_:=a2.zbp,zay:=x10.1 }:zag) x20).bind fun x21=>
   some (x21.1,x21.2)
  else
   if (decide (a2.zbp=([108,111,110,103]:Str)))=true then
    (zfP x13.zcR).bind fun x25=>
    (zar a0 x10.2 x25 (132:Int) a2.At_).bind fun x26=>
    (zbb a0 x26 ({ a3 with Op_:=a2.zbp,zay:=x10.1 }:zag) (3:Int)).bind fun x29=>
    some (x29.1,x29.2)
   else
    if (decide (a2.zbp=([119,105,100,101]:Str)))=true then
     ((zfP x13.zcR).bind fun x33=>
       if x33=true then
        (idxL x10.1 (1:Int)).bind fun x36=>
        (zfP x36.zcR).bind fun x37=>
        (zar a0 x10.2 x37 (132:Int) a2.At_).bind fun x38=>
        some x38
       else
        (zar a0 x10.2 false (132:Int) a2.At_).bind fun x46=>
        some x46).bind fun y32=>
     (zbb a0 y32 ({ a3 with Op_:=a2.zbp,zay:=x10.1 }:zag) (3:Int)).bind fun x51=>
     some (x51.1,x51.2)
    else
     (zar a0 x10.2 (x13.zcR == (3:Int)) (132:Int) a2.At_).bind fun x53=>
     (zbb a0 x53 ({ a3 with Op_:=a2.zbp,zay:=x10.1 }:zag) (2:Int)).bind fun x55=>
     some (x55.1,x55.2)
def zdi (zbg:zad->zaj->zab->Option (zag × zaj)) (a2:(List zab)) (a0:zad):Nat->(List zag)->Int->zaj->Option ((List zag) × zaj)
 | 0,_,_,_=>none
 | c6+1,v2,v3,v4=>
   if (decide (v3<(a2.length:Int)))=true then
    (idxL a2 v3).bind fun x11=>
    (zbg a0 v4 x11).bind fun x17=>
    need (v2.length+[x17.1].length<=1073741824) <|
    zdi zbg a2 a0 c6 (v2++[x17.1]) (IntKind.i64.wrap (v3+(1:Int))) x17.2
   else
    some (v2,v4)
def zfp (zbg:zad->zaj->zab->Option (zag × zaj)) (n:Nat) (a0:zad) (a1:zaj) (a2:(List zab)):Option ((List zag) × zaj):=
 (zdi zbg a2 a0 n [] (0:Int) a1).bind fun y5=>
 some (y5.1,y5.2)
def za4:Nat->(zad->zaj->zab->Option (zag × zaj)) × (zad->zaj->zab->zag->Option (zag × zaj)) × (zad->zaj->zab->zag->Option (zag × zaj)) × (zad->zaj->zab->zag->Option (zag × zaj)) × (zad->zaj->zab->zag->Option (zag × zaj)) × (zad->zaj->(List zab)->Option ((List zag) × zaj))
 | 0=>(fun _ _ _=>none,fun _ _ _ _=>none,fun _ _ _ _=>none,fun _ _ _ _=>none,fun _ _ _ _=>none,fun _ _ _=>none)
 | n+1=>(ze2 (za4 n).2.1 (za4 n).2.2.1 (za4 n).2.2.2.1 (za4 n).2.2.2.2.1 n,ze0 (za4 n).1 n,zeI (za4 n).2.2.2.2.2 n,zeq (za4 n).2.2.2.2.2 n,zd8 (za4 n).2.2.2.2.2 n,zfp (za4 n).1 n)
def zch (n:Nat):zad->zaj->zab->Option (zag × zaj):=(za4 n).1
def zjU (n:Nat):zad->zaj->zab->zag->Option (zag × zaj):=(za4 n).2.1
def zjt (n:Nat):zad->zaj->zab->zag->Option (zag × zaj):=(za4 n).2.2.1
def zje (n:Nat):zad->zaj->zab->zag->Option (zag × zaj):=(za4 n).2.2.2.1
def ziG (n:Nat):zad->zaj->zab->zag->Option (zag × zaj):=(za4 n).2.2.2.2.1
def zkj (n:Nat):zad->zaj->(List zab)->Option ((List zag) × zaj):=(za4 n).2.2.2.2.2
def zb3 (n:Nat) (a0:zad) (a1:zaj) (a2:zab):Option (zag × zaj):=
 (zch n a0 a1 a2).bind fun x3=>
 (zar a0 x3.2 (x3.1.zcR == (1:Int)) (133:Int) a2.At_).bind fun x6=>
 some (x3.1,x6)
def zep (n:Nat) (a0:zad) (a1:zaj) (a2:zab):Option (Int × zaj):=
 (ze9 n a0.p_ a2.zbp).bind fun x2=>
 (zar a0 a1 x2.2 (130:Int) a2.At_).bind fun x5=>
 some (x2.1,x5)
def zeW (a0:zad) (a1:zaj) (a2:Int):Option (List zaD):=
 (idxL a0.p_.zbo a2).bind fun x1=>
 need ((0:Int)<=x1.zbf/\x1.zbf<=(x1.zbe.length:Int)) <|
 some (x1.zbe.take (x1.zbf.toNat))
def zgX (a0:Int) (a1:Int):Option Bool:=
 (if (a0 == a1)=true then
    some true
   else
    if (a0 == (1:Int))=true then
     some (a1 == (2:Int))
    else
     some false).bind fun y1=>
 some y1
def zfo (n:Nat) (a0:zad) (a1:zaj) (a2:zab) (a3:Int):Option (zag × zaj):=
 (zar a0 a1 (a2.zbE == (15:Int)) (132:Int) a2.At_).bind fun x3=>
 (zcu n a0 x3 a2).bind fun x5=>
 ((zb4 a0 x5.2 x5.1).bind fun x8=>
   if (x8 == (4:Int))=true then
    (idxL a0.p_.zbo a0.f_).bind fun x11=>
    (idxL x11.zbe (max x5.1 (0:Int))).bind fun x14=>
    (zar a0 x5.2 (x14.zga == a3) (132:Int) a2.At_).bind fun x15=>
    some x15
   else
    (zar a0 x5.2 false (132:Int) a2.At_).bind fun x40=>
    some x40).bind fun y7=>
 some ((zag.mk ([118,97,114]:Str) (4:Int) (0:Int) x5.1 [] a2.At_),y7)
def zes (n:Nat) (a0:zad) (a1:zaj) (a2:zab) (a3:zaD):Option (zag × zaj):=
 if (a3.zbE == (4:Int))=true then
  (zfo n a0 a1 a2 a3.zga).bind fun x5=>
  some (x5.1,x5.2)
 else
  if (a3.zbE == (1:Int))=true then
   (zb3 n a0 a1 a2).bind fun x8=>
   some (x8.1,x8.2)
  else
   (zch n a0 a1 a2).bind fun x10=>
   (zgX x10.1.zcR a3.zbE).bind fun x13=>
   (zar a0 x10.2 x13 (132:Int) a2.At_).bind fun x14=>
   some (x10.1,x14)
def zcZ (n:Nat) (a2:zab) (x20:(List zaD)) (a0:zad) (x7:(List Int)) (x4:(Int × zaj)):Nat->Int->zaj->zae->Option (zaj × zae)
 | 0,_,_,_=>none
 | c29+1,v25,v26,v27=>
   if (decide (v25<(a2.zay.length:Int)))=true then
    (idxL a2.zay v25).bind fun x34=>
    if (v26.e_ != (0:Int))=true then
     some (v26,v27)
    else
     (idxL x20 v25).bind fun x41=>
     (zes n ({ a0 with zbR:=(a0.zbR.set a0.at_.toNat (x7++[x4.1])) }:zad) v26 x34 x41).bind fun x42=>
     need (v27.zay.length+[x42.1].length<=1073741824) <|
     zcZ n a2 x20 a0 x7 x4 c29 (IntKind.i64.wrap (v25+(1:Int))) x42.2 ({ v27 with zay:=(v27.zay++[x42.1]) }:zae)
   else
    some (v26,v27)
def zc2 (n:Nat) (a0:zad) (a1:zaj) (a2:zab) (a3:zae) (a4:Int):Option (zae × zad × zaj):=
 (zep n a0 a1 a2).bind fun x4=>
 if (x4.2.e_ != (0:Int))=true then
  some (({ a3 with Op_:=([99,97,108,108]:Str),Var_:=a4,zhd:=x4.1,zay:=[] }:zae),a0,x4.2)
 else
  (idxL a0.zbR a0.at_).bind fun x7=>
  need (x7.length+1<=1073741824) <|
  (zeW ({ a0 with zbR:=(a0.zbR.set a0.at_.toNat (x7++[x4.1])) }:zad) x4.2 x4.1).bind fun x20=>
  (zar ({ a0 with zbR:=(a0.zbR.set a0.at_.toNat (x7++[x4.1])) }:zad) x4.2 ((a2.zay.length:Int) == (x20.length:Int)) (136:Int) a2.At_).bind fun x22=>
  (zcZ n a2 x20 a0 x7 x4 n (0:Int) x22 ({ a3 with Op_:=([99,97,108,108]:Str),Var_:=a4,zhd:=x4.1,zay:=[] }:zae)).bind fun y28=>
  some (y28.2,({ a0 with zbR:=(a0.zbR.set a0.at_.toNat (x7++[x4.1])) }:zad),y28.1)
def zdh (n:Nat) (a0:zad) (a1:zaj) (a2:zab):Option Bool:=
 (if (a2.zbE == (17:Int))=true then
    (zim n a2.zbp).bind fun x4=>
    some (x4 == (0:Int))
   else
    some false).bind fun y2=>
 some y2
def zfl (n:Nat) (a0:zad) (a1:zaj) (a2:zab) (a3:zae):Option (zae × zad × zaj):=
 (idxL a2.zay (0:Int)).bind fun x4=>
 (zdh n a0 a1 x4).bind fun x5=>
 if x5=true then
  (zc2 n a0 a1 x4 ({ a3 with zay:=[] }:zae) (-1:Int)).bind fun x13=>
  if (x13.2.2.e_ != (0:Int))=true then
   some (({ x13.1 with At_:=a2.At_ }:zae),x13.2.1,x13.2.2)
  else
   (idxL x13.2.1.p_.zbo x13.1.zhd).bind fun x16=>
   (zar x13.2.1 x13.2.2 (x16.zcD != (0:Int)) (132:Int) a2.At_).bind fun x30=>
   (zbJ n x13.2.1 x30 (zaD.mk a2.zbp x16.zcD (0:Int)) a2.At_).bind fun x32=>
   some (({ x13.1 with Var_:=x32.1,At_:=a2.At_ }:zae),x32.2.1,x32.2.2)
 else
  (zch n a0 a1 x4).bind fun x34=>
  (zhu x34.1.zcR).bind fun x37=>
  (zbJ n a0 x34.2 (zaD.mk a2.zbp x37 (0:Int)) a2.At_).bind fun x38=>
  some (({ a3 with Op_:=([118,97,114]:Str),Var_:=x38.1,zay:=[x34.1] }:zae),x38.2.1,x38.2.2)
def zeL (n:Nat) (a0:zad) (a1:zaj) (a2:zab):Option (Int × zaj):=
 (zcu n a0 a1 a2).bind fun x2=>
 (zb4 a0 x2.2 x2.1).bind fun x4=>
 (if (x4 == (2:Int))=true then
    (zar a0 x2.2 true (132:Int) a2.At_).bind fun x8=>
    some x8
   else
    (zar a0 x2.2 (x4 == (3:Int)) (132:Int) a2.At_).bind fun x10=>
    some x10).bind fun y6=>
 some (x2.1,y6)
def zfI (n:Nat) (a0:zad) (a1:zaj) (a2:zab) (a3:zae):Option (zae × zad × zaj):=
 (zeL n a0 a1 a2).bind fun x4=>
 (idxL a2.zay (0:Int)).bind fun x6=>
 (zdh n a0 x4.2 x6).bind fun x7=>
 if x7=true then
  (zc2 n a0 x4.2 x6 ({ a3 with zay:=[] }:zae) x4.1).bind fun x15=>
  if (x15.2.2.e_ == (0:Int))=true then
   (zb4 x15.2.1 x15.2.2 x4.1).bind fun x18=>
   (idxL x15.2.1.p_.zbo x15.1.zhd).bind fun x19=>
   (zar x15.2.1 x15.2.2 (x19.zcD == x18) (132:Int) a2.At_).bind fun x21=>
   some (({ x15.1 with At_:=a2.At_ }:zae),x15.2.1,x21)
  else
   some (({ x15.1 with At_:=a2.At_ }:zae),x15.2.1,x15.2.2)
 else
  (zch n a0 x4.2 x6).bind fun x36=>
  (zb4 a0 x36.2 x4.1).bind fun x39=>
  (zgX x36.1.zcR x39).bind fun x40=>
  (zar a0 x36.2 x40 (132:Int) a2.At_).bind fun x41=>
  some (({ a3 with Op_:=([115,101,116]:Str),Var_:=x4.1,zay:=[x36.1] }:zae),a0,x41)
def zfk (n:Nat) (a0:zad) (a1:zaj) (a2:zab) (a3:Int):Option (zag × zaj):=
 (zb3 n a0 a1 a2).bind fun x3=>
 (if (x3.2.e_ == (0:Int))=true then
    some (decide (x3.1.Op_=([110,117,109]:Str)))
   else
    some false).bind fun y6=>
 if y6=true then
  (idxL a0.p_.zbo a0.f_).bind fun x12=>
  (idxL x12.zbe a3).bind fun x15=>
  (zar a0 x3.2 (decide ((IntKind.i64.wrap x3.1.N_)<x15.zga)) (137:Int) a2.At_).bind fun x16=>
  some (x3.1,x16)
 else
  some (x3.1,x3.2)
def zfJ (n:Nat) (a0:zad) (a1:zaj) (a2:zab) (a3:zae):Option (zae × zaj):=
 (zcu n a0 a1 a2).bind fun x4=>
 (zb4 a0 x4.2 x4.1).bind fun x6=>
 (zar a0 x4.2 (x6 == (4:Int)) (132:Int) a2.At_).bind fun x7=>
 (idxL a2.zay (0:Int)).bind fun x10=>
 (zfk n a0 x7 x10 x4.1).bind fun x11=>
 (idxL a2.zay (1:Int)).bind fun x19=>
 (zch n a0 x11.2 x19).bind fun x20=>
 (zgX x20.1.zcR (2:Int)).bind fun x28=>
 (zar a0 x20.2 x28 (132:Int) a2.At_).bind fun x29=>
 some (({ a3 with Op_:=([112,117,116]:Str),Var_:=x4.1,zay:=[x11.1,x20.1] }:zae),x29)
def zfB (n:Nat) (a0:zad) (a1:zaj) (a2:zab) (a3:zae) (a4:Bool):Option (zae × zad × zaj):=
 (if a4=true then
    (idxL a0.p_.zbo a0.f_).bind fun x6=>
    (zar a0 a1 (x6.zcD != (0:Int)) (135:Int) a2.At_).bind fun x9=>
    some x9
   else
    (zar a0 a1 false (135:Int) a2.At_).bind fun x24=>
    some x24).bind fun y4=>
 (if (y4.e_ == (0:Int))=true then
    (idxL a2.zay (0:Int)).bind fun x31=>
    (zdh n a0 y4 x31).bind fun x32=>
    some x32
   else
    some false).bind fun y29=>
 if y29=true then
  (idxL a2.zay (0:Int)).bind fun x43=>
  (zc2 n a0 y4 x43 ({ a3 with zay:=[] }:zae) (-2:Int)).bind fun x44=>
  if (x44.2.2.e_ == (0:Int))=true then
   (idxL x44.2.1.p_.zbo x44.1.zhd).bind fun x52=>
   (idxL x44.2.1.p_.zbo x44.2.1.f_).bind fun x54=>
   (zar x44.2.1 x44.2.2 (x52.zcD == x54.zcD) (132:Int) a2.At_).bind fun x57=>
   some (({ x44.1 with At_:=a2.At_ }:zae),x44.2.1,x57)
  else
   some (({ x44.1 with At_:=a2.At_ }:zae),x44.2.1,x44.2.2)
 else
  (idxL a2.zay (0:Int)).bind fun x83=>
  (zch n a0 y4 x83).bind fun x84=>
  (idxL a0.p_.zbo a0.f_).bind fun x92=>
  (zgX x84.1.zcR x92.zcD).bind fun x95=>
  (zar a0 x84.2 x95 (132:Int) a2.At_).bind fun x96=>
  some (({ a3 with Op_:=([114,101,116,117,114,110]:Str),zay:=[x84.1] }:zae),a0,x96)
def zcO (zbt:zad->zaj->zab->Bool->Option (zae × zad × zaj)) (a2:zab) (a3:Bool):Nat->(List zae)->Int->zad->zaj->Option ((List zae) × zad × zaj)
 | 0,_,_,_,_=>none
 | c9+1,v4,v5,v6,v7=>
   if (decide (v5<(a2.zay.length:Int)))=true then
    (idxL a2.zay v5).bind fun x14=>
    if (v7.e_ != (0:Int))=true then
     some (v4,v6,v7)
    else
     (if a3=true then
        (zbt v6 v7 x14 (v5 == (IntKind.i64.wrap ((a2.zay.length:Int) - (1:Int))))).bind fun x28=>
        need (v4.length+[x28.1].length<=1073741824) <|
        some ((v4++[x28.1]),x28.2.1,x28.2.2)
       else
        (zbt v6 v7 x14 false).bind fun x33=>
        need (v4.length+[x33.1].length<=1073741824) <|
        some ((v4++[x33.1]),x33.2.1,x33.2.2)).bind fun y26=>
     zcO zbt a2 a3 c9 y26.1 (IntKind.i64.wrap (v5+(1:Int))) y26.2.1 y26.2.2
   else
    some (v4,v6,v7)
def zeM (zbt:zad->zaj->zab->Bool->Option (zae × zad × zaj)) (n:Nat) (a0:zad) (a1:zaj) (a2:zab) (a3:Bool):Option ((List zae) × zad × zaj):=
 (zcO zbt a2 a3 n [] (0:Int) a0 a1).bind fun y8=>
 need ((0:Int)<=(a0.zaW.length:Int)/\(a0.zaW.length:Int)<=(y8.2.1.zaW.length:Int)) <|
 some (y8.1,({ y8.2.1 with zaW:=(y8.2.1.zaW.take (a0.zaW.length)) }:zad),y8.2.2)
def zci (za5:zad->zaj->zab->Bool->Option ((List zae) × zad × zaj)) (a2:zab):Nat->Int->zad->zaj->zae->Option (zad × zaj × zae)
 | 0,_,_,_,_=>none
 | c59+1,v54,v55,v56,v57=>
   if (decide (v54<((a2.zay.drop 2).length:Int)))=true then
    (idxL (a2.zay.drop 2) v54).bind fun x64=>
    (za5 v55 v56 x64 false).bind fun x70=>
    zci za5 a2 c59 (IntKind.i64.wrap (v54+(1:Int))) x70.2.1 x70.2.2 ({ v57 with zip:=x70.1 }:zae)
   else
    some (v55,v56,v57)
def zdQ (za5:zad->zaj->zab->Bool->Option ((List zae) × zad × zaj)) (zdy:zad->zaj->zab->zae->Option (zae × zad × zaj)) (n:Nat) (a0:zad) (a1:zaj) (a2:zab) (a3:Bool):Option (zae × zad × zaj):=
 if (a2.zbE == (5:Int))=true then
  (idxL a2.zay (0:Int)).bind fun x5=>
  (zb3 n a0 a1 x5).bind fun x6=>
  (zbJ n a0 x6.2 (zaD.mk a2.zbp (1:Int) (0:Int)) a2.At_).bind fun x13=>
  some ((zae.mk ([108,101,116]:Str) x13.1 (0:Int) [x6.1] [] [] a2.At_),x13.2.1,x13.2.2)
 else
  if (a2.zbE == (6:Int))=true then
   (zfl n a0 a1 a2 (zae.mk [] (-1:Int) (0:Int) [] [] [] a2.At_)).bind fun x16=>
   some (x16.1,x16.2.1,x16.2.2)
  else
   if (a2.zbE == (7:Int))=true then
    (ziO (IntKind.i64.wrap (min a2.Num_ (1025:Int)))).bind fun x19=>
    (zar a0 a1 x19 (136:Int) a2.At_).bind fun x20=>
    (zbJ n a0 x20 (zaD.mk a2.zbp (4:Int) (IntKind.i64.wrap a2.Num_)) a2.At_).bind fun x23=>
    some ((zae.mk ([97,114,114]:Str) x23.1 (0:Int) [] [] [] a2.At_),x23.2.1,x23.2.2)
   else
    if (a2.zbE == (8:Int))=true then
     (zfI n a0 a1 a2 (zae.mk [] (-1:Int) (0:Int) [] [] [] a2.At_)).bind fun x26=>
     some (x26.1,x26.2.1,x26.2.2)
    else
     if (a2.zbE == (9:Int))=true then
      (zfJ n a0 a1 a2 (zae.mk [] (-1:Int) (0:Int) [] [] [] a2.At_)).bind fun x29=>
      some (x29.1,a0,x29.2)
     else
      if (a2.zbE == (10:Int))=true then
       (zc2 n a0 a1 a2 (zae.mk [] (-1:Int) (0:Int) [] [] [] a2.At_) (-1:Int)).bind fun x32=>
       some (x32.1,x32.2.1,x32.2.2)
      else
       if (a2.zbE == (11:Int))=true then
        (idxL a2.zay (0:Int)).bind fun x35=>
        (zb3 n a0 a1 x35).bind fun x36=>
        (idxL a2.zay (1:Int)).bind fun x43=>
        (za5 a0 x36.2 x43 false).bind fun x44=>
        need ((0:Int)<=(2:Int)/\(2:Int)<=(a2.zay.length:Int)) <|
        (zci za5 a2 n (0:Int) x44.2.1 x44.2.2 (zae.mk ([105,102]:Str) (-1:Int) (0:Int) [x36.1] x44.1 [] a2.At_)).bind fun y58=>
        some (y58.2.2,y58.1,y58.2.1)
       else
        if (a2.zbE == (12:Int))=true then
         (zdy a0 a1 a2 (zae.mk [] (-1:Int) (0:Int) [] [] [] a2.At_)).bind fun x73=>
         some (x73.1,x73.2.1,x73.2.2)
        else
         if (a2.zbE == (13:Int))=true then
          (zfB n a0 a1 a2 (zae.mk [] (-1:Int) (0:Int) [] [] [] a2.At_) a3).bind fun x76=>
          some (x76.1,x76.2.1,x76.2.2)
         else
          some ((zae.mk [] (-1:Int) (0:Int) [] [] [] a2.At_),a0,a1)
def zeY (za5:zad->zaj->zab->Bool->Option ((List zae) × zad × zaj)) (n:Nat) (a0:zad) (a1:zaj) (a2:zab) (a3:zae):Option (zae × zad × zaj):=
 (idxL a2.zay (0:Int)).bind fun x4=>
 (zb3 n a0 a1 x4).bind fun x5=>
 (idxL a2.zay (1:Int)).bind fun x6=>
 (zb3 n a0 x5.2 x6).bind fun x7=>
 (zbJ n a0 x7.2 (zaD.mk a2.zbp (1:Int) (0:Int)) a2.At_).bind fun x21=>
 (idxL a2.zay (2:Int)).bind fun x23=>
 (za5 x21.2.1 x21.2.2 x23 false).bind fun x24=>
 need ((0:Int)<=(min (a0.zaW.length:Int) (x24.2.1.zaW.length:Int))/\(min (a0.zaW.length:Int) (x24.2.1.zaW.length:Int))<=(x24.2.1.zaW.length:Int)) <|
 some (({ a3 with Op_:=([102,111,114]:Str),Var_:=x21.1,zay:=[x5.1,x7.1],zdG:=x24.1 }:zae),({ x24.2.1 with zaW:=(x24.2.1.zaW.take ((min (a0.zaW.length:Int) (x24.2.1.zaW.length:Int)).toNat)) }:zad),x24.2.2)
def zbY:Nat->(zad->zaj->zab->Bool->Option ((List zae) × zad × zaj)) × (zad->zaj->zab->Bool->Option (zae × zad × zaj)) × (zad->zaj->zab->zae->Option (zae × zad × zaj))
 | 0=>(fun _ _ _ _=>none,fun _ _ _ _=>none,fun _ _ _ _=>none)
 | n+1=>(zeM (zbY n).2.1 n,zdQ (zbY n).1 (zbY n).2.2 n,zeY (zbY n).1 n)
def zfn (n:Nat):zad->zaj->zab->Bool->Option ((List zae) × zad × zaj):=(zbY n).1
def zhE (n:Nat):zad->zaj->zab->Bool->Option (zae × zad × zaj):=(zbY n).2.1
def zjT (n:Nat):zad->zaj->zab->zae->Option (zae × zad × zaj):=(zbY n).2.2
def ziP (a0:zab):Option Bool:=
 (if (decide ((0:Int)<(a0.zay.length:Int)))=true then
    (idxL a0.zay (IntKind.i64.wrap ((a0.zay.length:Int) - (1:Int)))).bind fun x4=>
    some (x4.zbE == (13:Int))
   else
    some false).bind fun y2=>
 some y2
def zc0 (n:Nat) (a3:zab):Nat->Int->zad->zaj->Option (zad × zaj)
 | 0,_,_,_=>none
 | c11+1,v7,v8,v9=>
   if (decide (v7<((a3.zay.drop (max (IntKind.i64.wrap ((a3.zay.length:Int) - (1:Int))) (0:Int)).toNat).length:Int)))=true then
    (idxL (a3.zay.drop (max (IntKind.i64.wrap ((a3.zay.length:Int) - (1:Int))) (0:Int)).toNat) v7).bind fun x16=>
    (idxL v8.p_.zbo v8.f_).bind fun x22=>
    (zfn n v8 v9 x16 true).bind fun x25=>
    (idxL x25.2.1.p_.zbo v8.f_).bind fun x26=>
    ((idxL (x25.2.1.p_.zbo.set v8.f_.toNat { x26 with zdG:=x25.1 }) v8.f_).bind fun x56=>
      if (x56.zcD == (0:Int))=true then
       (zar ({ x25.2.1 with p_:=⟨(x25.2.1.p_.zbo.set v8.f_.toNat { x26 with zdG:=x25.1 })⟩ }:zad) x25.2.2 true (135:Int) a3.At_).bind fun x71=>
       some x71
      else
       (ziP x16).bind fun x73=>
       (zar ({ x25.2.1 with p_:=⟨(x25.2.1.p_.zbo.set v8.f_.toNat { x26 with zdG:=x25.1 })⟩ }:zad) x25.2.2 x73 (135:Int) a3.At_).bind fun x74=>
       some x74).bind fun y55=>
    zc0 n a3 c11 (IntKind.i64.wrap (v7+(1:Int))) ({ x25.2.1 with p_:=⟨(x25.2.1.p_.zbo.set v8.f_.toNat { x26 with zdG:=x25.1 })⟩ }:zad) y55
   else
    some (v8,v9)
def zeg (n:Nat) (a0:zad) (a1:zaj) (a2:Int) (a3:zab):Option (zad × zaj):=
 (zd3 n a0 a1 a2).bind fun x2=>
 need ((0:Int)<=(max (IntKind.i64.wrap ((a3.zay.length:Int) - (1:Int))) (0:Int))/\(max (IntKind.i64.wrap ((a3.zay.length:Int) - (1:Int))) (0:Int))<=(a3.zay.length:Int)) <|
 (zc0 n a3 n (0:Int) x2.1 x2.2).bind fun y10=>
 some (y10.1,y10.2)
end Go.Proofs.YtldnmmnnohnpkaaGreatDoor.Abs
namespace Go.Proofs.YtldnmmnnohnpkaaGreatDoor.Abs
set_option linter.unusedVariables false
open Go.RowKit
def zhY (rec_:Int->List Int->Option (Bool × List Int)) (to:Int):List Int->List Int->Option (Bool × List Int)
 | [],seen=>some (false,seen)
 | k::ks,seen=>
   if (k == to)=true then some (true,seen)
   else
    (idxL seen k).bind fun s=>
    if (IntKind.i64.wrap (s+(1:Int)) == (1:Int))=true then
     (rec_ k (seen.set k.toNat (IntKind.i64.wrap (s+(1:Int))))).bind fun r=>
     if r.1=true then some (true,r.2) else zhY rec_ to ks r.2
    else zhY rec_ to ks (seen.set k.toNat (IntKind.i64.wrap (s+(1:Int))))
def zeK:Nat->zad->Int->Int->List Int->Option (Bool × List Int)
 | 0,_,_,_,_=>none
 | n+1,c,fr,to,seen=>(idxL c.zbR fr).bind fun l=>need (l.length<=1073741824) <| zhY (fun k s=>zeK n c k to s) to l seen
abbrev Look:=Int->zab->zad->zaj->Option (zad × zaj)
def zil (look:Look):List zab->Nat->zad->zaj->Option (zad × zaj)
 | [],_,c,w=>some (c,w)
 | f::l,i,c,w=>if (w.e_ == (0:Int))=true then (look i f c w).bind fun r=>zil look l (i+1) r.1 r.2 else zil look l (i+1) c w
def zko (nodes:List zab):List Look->zad->zaj->Option (zad × zaj)
 | [],c,w=>some (c,w)
 | look::ls,c,w=>(zil look nodes 0 c w).bind fun r=>zko nodes ls r.1 r.2
def zjB (n len:Nat) (c:zad):List zab->Nat->zaj->Option zaj
 | [],_,w=>some w
 | f::l,i,w=>if (w.e_ == (0:Int))=true then (zeK n c i i (List.replicate len 0)).bind fun r=>(zar c w (!r.1) (134:Int) f.At_).bind fun w'=>zjB n len c l (i+1) w' else zjB n len c l (i+1) w
def zkp (n:Nat) (a0:Str):Option (zat × Int × Int):=
 (zkf n a0).bind fun p=>
 if (p.2.1 != (0:Int))=true then some (⟨[]⟩,p.2.1,p.2.2)
 else
  (zfj n zad.Z ⟨0,0⟩ p.1).bind fun a=>
  need (p.1.zay.length<=1073741824) <|
  (zko p.1.zay [fun i f c w=>zee n c w i f,fun i f c w=>zeg n c w i f] a.1 a.2).bind fun b=>
  (zjB n p.1.zay.length b.1 p.1.zay 0 b.2).bind fun w=>
  if (w.e_ != (0:Int))=true then some (⟨[]⟩,w.e_,w.zjY) else some (b.1.p_,0,0)
end Go.Proofs.YtldnmmnnohnpkaaGreatDoor.Abs
namespace Go.Proofs.YtldnmmnnohnpkaaGreatDoor.Abs
set_option linter.unusedVariables false
open Go.RowKit
structure zbm where
 zkX:(List Int)
 zhU:(List (List Int))
def zbm.C (x:zbm):List V:=[.list .none (x.zkX.map (cI .u64)),.list .none (x.zhU.map (cL (cI .u32)))]
@[go_sem] theorem zbm.C_eq (x:zbm):zbm.C x=[.list .none (x.zkX.map (cI .u64)),.list .none (x.zhU.map (cL (cI .u32)))]:=_root_.id rfl
structure zax where
 zbE:Int
 A_:Int
 B_:Int
def zax.C (x:zax):List V:=[.lit (.int .i64 x.zbE),.lit (.int .u32 x.A_),.lit (.int .u32 x.B_)]
@[go_sem] theorem zax.C_eq (x:zax):zax.C x=[.lit (.int .i64 x.zbE),.lit (.int .u32 x.A_),.lit (.int .u32 x.B_)]:=_root_.id rfl
structure zai where
 p_:zat
 zdw:Int
 zcG:Int
 e_:Int
 za3:(List zax)
structure zaJ where
 Op_:Int
 N_:Int
 zay:(List zaJ)
mutual
def zaJ.C:zaJ->List V
 | ⟨a0,a1,a2⟩=>[.lit (.int .i64 a0),.lit (.int .u32 a1),.list .none (zaJ.CL a2)]
def zaJ.CL:List zaJ->List (List V)
 | []=>[]
 | x::l=>zaJ.C x::zaJ.CL l
end
theorem zaJ.CL_eq (l:List zaJ):zaJ.CL l=l.map zaJ.C:=by
 induction l with
 | nil=>rfl
 | cons x l ih=>rw [zaJ.CL,ih];rfl
@[go_sem] theorem zaJ.C_eq (x:zaJ):zaJ.C x=[.lit (.int .i64 x.Op_),.lit (.int .u32 x.N_),.list .none (x.zay.map zaJ.C)]:=by
 cases x;simp only [zaJ.C,zaJ.CL_eq]
structure zal where
 f_:zaH
 za1:List Int
 zbk:List Int
 zgE:Int
def frC (W A:Pa) (x:zal):List V:=[.lit (.string (bs x.f_.zgB)),.lit (.bool x.f_.zgl),.lit (.int .i64 x.f_.zcD),.lit (.int .i64 x.f_.zbf),.list .none (x.f_.zbe.map zaD.C),.list .none (x.f_.zdG.map zae.C),.vec W 1 x.za1.length,.vec A 1 x.zbk.length,.lit (.int .u64 x.zgE)]
@[go_sem] theorem frC_eq {W A:Pa} {x:zal}:frC W A x=[.lit (.string (bs x.f_.zgB)),.lit (.bool x.f_.zgl),.lit (.int .i64 x.f_.zcD),.lit (.int .i64 x.f_.zbf),.list .none (x.f_.zbe.map zaD.C),.list .none (x.f_.zdG.map zae.C),.vec W 1 x.za1.length,.vec A 1 x.zbk.length,.lit (.int .u64 x.zgE)]:=_root_.id rfl
structure zbC where
 zn9:Int
 zcD:Int
 zhU:(List (List Int))
 Trace_:(List zax)
def zbC.C (x:zbC):List V:=[.lit (.int .i64 x.zn9),.lit (.int .u64 x.zcD),.list .none (x.zhU.map (cL (cI .u32))),.list .none (x.Trace_.map zax.C)]
@[go_sem] theorem zbC.C_eq (x:zbC):zbC.C x=[.lit (.int .i64 x.zn9),.lit (.int .u64 x.zcD),.list .none (x.zhU.map (cL (cI .u32))),.list .none (x.Trace_.map zax.C)]:=_root_.id rfl
def zbC.Z:zbC:=⟨0,0,[],[]⟩
def zfr (a0:Str):Nat->Int->Option (Unit ⊕ Int)
 | 0,_=>none
 | c4+1,v2=>
   if (decide (v2<(15:Int)))=true then
    (idxL zbq v2).bind fun x9=>
    if (decide (x9.zmX=a0))=true then
     some (.inr x9.op_)
    else
     zfr a0 c4 (IntKind.i64.wrap (v2+(1:Int)))
   else
    some (.inl ())
def zet (n:Nat) (a0:Str):Option Int:=
 (zfr a0 n (0:Int)).bind fun y3=>
 y3.elim (fun y3a=>
  some (0:Int)) (fun y3a=>
  some y3a)
def zfG (a0:zaH) (a1:zbm):Nat->Int->Int->Int->Option ((Int × Int) ⊕ Bool)
 | 0,_,_,_=>none
 | c10+1,v6,v7,v8=>
   if (decide (v8<((a0.zbe.take a0.zbf.toNat).length:Int)))=true then
    ((idxL (a0.zbe.take a0.zbf.toNat) v8).bind fun x16=>
      if (x16.zbE == (4:Int))=true then
       (if (decide ((a1.zhU.length:Int)<=v7))=true then
          some true
         else
          (idxL a1.zhU v7).bind fun x25=>
          some ((x25.length:Int) != x16.zga)).bind fun y23=>
       if y23=true then
        some (.inr false)
       else
        some (.inl (v6,(IntKind.i64.wrap (v7+(1:Int)))))
      else
       (if (decide ((a1.zkX.length:Int)<=v6))=true then
          some true
         else
          if (x16.zbE != (3:Int))=true then
           (idxL a1.zkX v6).bind fun x37=>
           some (decide ((4294967295:Int)<x37))
          else
           some false).bind fun y34=>
       if y34=true then
        some (.inr false)
       else
        some (.inl ((IntKind.i64.wrap (v6+(1:Int))),v7)):Option ((Int × Int) ⊕ Bool)).bind fun y15=>
    y15.elim (fun y15a=>
     zfG a0 a1 c10 y15a.1 y15a.2 (IntKind.i64.wrap (v8+(1:Int)))) (fun y15a=>
     some (.inr y15a))
   else
    some (.inl (v6,v7))
def zkl (n:Nat) (a0:zaH) (a1:zbm):Option Bool:=
 need ((0:Int)<=a0.zbf/\a0.zbf<=(a0.zbe.length:Int)) <|
 (zfG a0 a1 n (0:Int) (0:Int) (0:Int)).bind fun y9=>
 y9.elim (fun y9a=>
  (if (y9a.1 == (a1.zkX.length:Int))=true then
     some (y9a.2 == (a1.zhU.length:Int))
    else
     some false).bind fun y54=>
  some y54) (fun y9a=>
  some y9a)
def za2 (a0:zai):Option Bool:=
 (if (a0.zcG != (0:Int))=true then
    some true
   else
    some (a0.e_ != (0:Int))).bind fun y1=>
 some y1
def zed (a0:zai):Option zai:=
 if (decide (a0.zdw<=(0:Int)))=true then
  some ({ a0 with e_:=(70:Int) }:zai)
 else
  some ({ a0 with zdw:=(IntKind.i64.wrap (a0.zdw - (1:Int))) }:zai)
def zcj (a0:zai) (a1:Int) (a2:Int) (a3:Int):Option zai:=
 need (a0.za3.length+[(zax.mk a1 a2 a3)].length<=1073741824) <|
 some ({ a0 with za3:=(a0.za3++[(zax.mk a1 a2 a3)]) }:zai)
def zjx (a0:Str) (a1:(List Int)):Option (Int × Bool):=
 if (decide (a0=([115,101,108,101,99,116]:Str)))=true then
  (idxL a1 (0:Int)).bind fun x2=>
  if ((andK .u64 x2 (1:Int)) == (1:Int))=true then
   (idxL a1 (1:Int)).bind fun x9=>
   some (x9,true)
  else
   (idxL a1 (2:Int)).bind fun x15=>
   some (x15,true)
 else
  if (decide (a0=([108,111,110,103]:Str)))=true then
   (idxL a1 (0:Int)).bind fun x22=>
   some (x22,true)
  else
   if (decide (a0=([108,111]:Str)))=true then
    (idxL a1 (0:Int)).bind fun x29=>
    some ((andK .u64 x29 (4294967295:Int)),true)
   else
    if (decide (a0=([104,105]:Str)))=true then
     (idxL a1 (0:Int)).bind fun x36=>
     some ((shrK .u64 x36 (32:Int)),true)
    else
     if (decide (a0=([119,105,100,101]:Str)))=true then
      (idxL a1 (0:Int)).bind fun x43=>
      (idxL a1 (1:Int)).bind fun x44=>
      some ((IntKind.u64.wrap (x43*x44)),true)
     else
      some ((0:Int),false)
def ze4 (a0:Int) (a1:Int):Option Int:=
 need ((0:Int)<=(andK .u64 (IntKind.u64.wrap a1) (63:Int))) <|
 need ((0:Int)<=(IntKind.u64.wrap ((64:Int) - (andK .u64 (IntKind.u64.wrap a1) (63:Int))))) <|
 some (orK .u64 (shlK .u64 a0 (andK .u64 (IntKind.u64.wrap a1) (63:Int))) (shrK .u64 a0 (IntKind.u64.wrap ((64:Int) - (andK .u64 (IntKind.u64.wrap a1) (63:Int))))))
def zht (a0:Bool):Option Int:=
 if a0=true then
  some (1:Int)
 else
  some (0:Int)
def ziL (a0:Str) (a1:Int) (a2:Int):Option Int:=
 if (decide (a0=([124]:Str)))=true then
  some (orK .u64 a1 a2)
 else
  if (decide (a0=([94]:Str)))=true then
   some (xorK .u64 a1 a2)
  else
   if (decide (a0=([38]:Str)))=true then
    some (andK .u64 a1 a2)
   else
    if (decide (a0=([43]:Str)))=true then
     some (IntKind.u64.wrap (a1+a2))
    else
     if (decide (a0=([45]:Str)))=true then
      some (IntKind.u64.wrap (a1 - a2))
     else
      if (decide (a0=([60,60]:Str)))=true then
       need ((0:Int)<=a2) <|
       some (shlK .u64 a1 a2)
      else
       if (decide (a0=([62,62]:Str)))=true then
        need ((0:Int)<=a2) <|
        some (shrK .u64 a1 a2)
       else
        if (decide (a0=([60,60,60]:Str)))=true then
         (ze4 a1 (IntKind.i64.wrap a2)).bind fun x11=>
         some x11
        else
         if (decide (a0=([61,61]:Str)))=true then
          (zht (a1 == a2)).bind fun x14=>
          some x14
         else
          if (decide (a0=([60]:Str)))=true then
           (zht (decide (a1<a2))).bind fun x17=>
           some x17
          else
           if (decide (a0=([110,111,116]:Str)))=true then
            some (comK .u64 a1)
           else
            some (IntKind.u64.wrap (0 - a1))
def zkK (a0:Int):Option zaJ:=
 some (zaJ.mk (1:Int) a0 [])
def zk4 (a0:zaJ) (a1:(List Int)):Option Int:=
 if (a0.Op_ == (1:Int))=true then
  some a0.N_
 else
  if (decide ((IntKind.i64.wrap a0.N_)<(a1.length:Int)))=true then
   (idxL a1 a0.N_).bind fun x4=>
   some x4
  else
   some (0:Int)
def zhV (a0:Bool):Option Int:=
 if a0=true then
  some (1:Int)
 else
  some (0:Int)
def zlP (a0:Int) (a1:Int):Option Int:=
 if (a0 == (3:Int))=true then
  some (comK .u32 a1)
 else
  some (IntKind.u32.wrap (0 - a1))
def ze5 (a0:Int) (a1:Int):Option Int:=
 need ((0:Int)<=(andK .u64 (IntKind.u64.wrap a1) (31:Int))) <|
 need ((0:Int)<=(IntKind.u64.wrap ((32:Int) - (andK .u64 (IntKind.u64.wrap a1) (31:Int))))) <|
 some (orK .u32 (shlK .u32 a0 (andK .u64 (IntKind.u64.wrap a1) (31:Int))) (shrK .u32 a0 (IntKind.u64.wrap ((32:Int) - (andK .u64 (IntKind.u64.wrap a1) (31:Int))))))
def zkJ (a0:Int) (a1:Int) (a2:Int):Option Int:=
 if (a0 == (5:Int))=true then
  some (orK .u32 a1 a2)
 else
  if (a0 == (6:Int))=true then
   some (xorK .u32 a1 a2)
  else
   if (a0 == (7:Int))=true then
    some (andK .u32 a1 a2)
   else
    if (a0 == (10:Int))=true then
     need ((0:Int)<=(andK .u32 a2 (31:Int))) <|
     some (shlK .u32 a1 (andK .u32 a2 (31:Int)))
    else
     if (a0 == (11:Int))=true then
      need ((0:Int)<=(andK .u32 a2 (31:Int))) <|
      some (shrK .u32 a1 (andK .u32 a2 (31:Int)))
     else
      (ze5 a1 (IntKind.i64.wrap (andK .u32 a2 (31:Int)))).bind fun x8=>
      some x8
def zlO (a0:Int) (a1:Int) (a2:Int):Option (Int × Bool):=
 if (a0 == (8:Int))=true then
  (zhV (a1 == a2)).bind fun x2=>
  some (x2,true)
 else
  if (a0 == (9:Int))=true then
   (zhV (decide (a1<a2))).bind fun x5=>
   some (x5,true)
  else
   if (a0 == (13:Int))=true then
    some ((IntKind.u32.wrap (a1+a2)),true)
   else
    if (a0 == (14:Int))=true then
     some ((IntKind.u32.wrap (a1 - a2)),true)
    else
     if (a0 == (15:Int))=true then
      some ((IntKind.u32.wrap (a1*a2)),true)
     else
      if (a0 == (16:Int))=true then
       if (a2 == (0:Int))=true then
        some ((0:Int),false)
       else
        need (a2 ≠ (0:Int)) <|
        some ((IntKind.u32.wrap (a1.tdiv a2)),true)
      else
       if (a0 == (17:Int))=true then
        if (a2 == (0:Int))=true then
         some ((0:Int),false)
        else
         need (a2 ≠ (0:Int)) <|
         some ((a1.tmod a2),true)
       else
        (zkJ a0 a1 a2).bind fun x16=>
        some (x16,true)
def zj8 (zfU:zaJ->(List Int)->Option (Int × Bool)) (n:Nat) (a0:zaJ) (a1:(List Int)):Option (Int × Bool):=
 if ((a0.zay.length:Int) == (0:Int))=true then
  (zk4 a0 a1).bind fun x3=>
  some (x3,true)
 else
  (idxL a0.zay (0:Int)).bind fun x5=>
  (zfU x5 a1).bind fun x6=>
  (if (!x6.2)=true then
     some true
    else
     some ((a0.zay.length:Int) == (1:Int))).bind fun y13=>
  if y13=true then
   (zhV x6.2).bind fun x19=>
   (zlP a0.Op_ x6.1).bind fun x20=>
   some ((IntKind.u32.wrap (x19*x20)),x6.2)
  else
   (idxL a0.zay (1:Int)).bind fun x23=>
   (zfU x23 a1).bind fun x24=>
   if (!x24.2)=true then
    some ((0:Int),false)
   else
    (zlO a0.Op_ x6.1 x24.1).bind fun x32=>
    some (x32.1,x32.2)
def zhW:Nat->zaJ->(List Int)->Option (Int × Bool)
 | 0=>fun _ _=>none
 | n+1=>zj8 (zhW n) n
def zcs (a2:(List Int)):Nat->Int->zaJ->Option zaJ
 | 0,_,_=>none
 | c50+1,v47,v48=>
   if (decide (v47<(a2.length:Int)))=true then
    (idxL a2 v47).bind fun x55=>
    (zkK (IntKind.u32.wrap x55)).bind fun x60=>
    need (v48.zay.length+[x60].length<=1073741824) <|
    zcs a2 c50 (IntKind.i64.wrap (v47+(1:Int))) ({ v48 with zay:=(v48.zay++[x60]) }:zaJ)
   else
    some v48
def zcr (a2:(List Int)):Nat->Int->zaJ->Option zaJ
 | 0,_,_=>none
 | c78+1,v75,v76=>
   if (decide (v75<(a2.length:Int)))=true then
    (idxL a2 v75).bind fun x83=>
    (zkK (IntKind.u32.wrap x83)).bind fun x88=>
    need (v76.zay.length+[x88].length<=1073741824) <|
    zcr a2 c78 (IntKind.i64.wrap (v75+(1:Int))) ({ v76 with zay:=(v76.zay++[x88]) }:zaJ)
   else
    some v76
def zcq (a2:(List Int)):Nat->Int->zaJ->Option zaJ
 | 0,_,_=>none
 | c129+1,v126,v127=>
   if (decide (v126<(a2.length:Int)))=true then
    (idxL a2 v126).bind fun x134=>
    (zkK (IntKind.u32.wrap x134)).bind fun x139=>
    need (v127.zay.length+[x139].length<=1073741824) <|
    zcq a2 c129 (IntKind.i64.wrap (v126+(1:Int))) ({ v127 with zay:=(v127.zay++[x139]) }:zaJ)
   else
    some v127
def zcp (a2:(List Int)):Nat->Int->zaJ->Option zaJ
 | 0,_,_=>none
 | c157+1,v154,v155=>
   if (decide (v154<(a2.length:Int)))=true then
    (idxL a2 v154).bind fun x162=>
    (zkK (IntKind.u32.wrap x162)).bind fun x167=>
    need (v155.zay.length+[x167].length<=1073741824) <|
    zcp a2 c157 (IntKind.i64.wrap (v154+(1:Int))) ({ v155 with zay:=(v155.zay++[x167]) }:zaJ)
   else
    some v155
def zeF (n:Nat) (a0:zai) (a1:zag) (a2:(List Int)):Option (Int × zai):=
 (if (decide ((0:Int)<(a1.zay.length:Int)))=true then
    (idxL a1.zay (0:Int)).bind fun x4=>
    some (x4.zcR == (3:Int))
   else
    some false).bind fun y2=>
 if (decide ((1:Int)<(a2.length:Int)))=true then
  (idxL a2 (1:Int)).bind fun x14=>
  if y2=true then
   (idxL a2 (0:Int)).bind fun x21=>
   (ziL a1.Op_ x21 x14).bind fun x22=>
   some (x22,a0)
  else
   (if (decide (a1.Op_=([47]:Str)))=true then
      some true
     else
      some (decide (a1.Op_=([37]:Str)))).bind fun y29=>
   if y29=true then
    (idxL a2 (0:Int)).bind fun x35=>
    (zcj a0 (4:Int) (IntKind.u32.wrap x35) (IntKind.u32.wrap x14)).bind fun x36=>
    (zet n a1.Op_).bind fun x43=>
    (zcs a2 n (0:Int) (zaJ.mk x43 (0:Int) [])).bind fun y49=>
    (zhW n y49 []).bind fun x68=>
    if (!x68.2)=true then
     some ((IntKind.u64.wrap x68.1),({ x36 with zcG:=(2:Int) }:zai))
    else
     some ((IntKind.u64.wrap x68.1),x36)
   else
    (zet n a1.Op_).bind fun x71=>
    (zcr a2 n (0:Int) (zaJ.mk x71 (0:Int) [])).bind fun y77=>
    (zhW n y77 []).bind fun x96=>
    if (!x96.2)=true then
     some ((IntKind.u64.wrap x96.1),({ a0 with zcG:=(2:Int) }:zai))
    else
     some ((IntKind.u64.wrap x96.1),a0)
 else
  if y2=true then
   (idxL a2 (0:Int)).bind fun x100=>
   (ziL a1.Op_ x100 (0:Int)).bind fun x101=>
   some (x101,a0)
  else
   (if (decide (a1.Op_=([47]:Str)))=true then
      some true
     else
      some (decide (a1.Op_=([37]:Str)))).bind fun y108=>
   if y108=true then
    (idxL a2 (0:Int)).bind fun x114=>
    (zcj a0 (4:Int) (IntKind.u32.wrap x114) (IntKind.u32.wrap (0:Int))).bind fun x115=>
    (zet n a1.Op_).bind fun x122=>
    (zcq a2 n (0:Int) (zaJ.mk x122 (0:Int) [])).bind fun y128=>
    (zhW n y128 []).bind fun x147=>
    if (!x147.2)=true then
     some ((IntKind.u64.wrap x147.1),({ x115 with zcG:=(2:Int) }:zai))
    else
     some ((IntKind.u64.wrap x147.1),x115)
   else
    (zet n a1.Op_).bind fun x150=>
    (zcp a2 n (0:Int) (zaJ.mk x150 (0:Int) [])).bind fun y156=>
    (zhW n y156 []).bind fun x175=>
    if (!x175.2)=true then
     some ((IntKind.u64.wrap x175.1),({ a0 with zcG:=(2:Int) }:zai))
    else
     some ((IntKind.u64.wrap x175.1),a0)
def zcJ (zba:zai->zal->(List (List Int))->zag->Option (Int × zai)) (a3:zag) (a1:zal) (a2:(List (List Int))):Nat->(List Int)->Int->zai->Option (((List Int) × zai) ⊕ (Int × zai))
 | 0,_,_,_=>none
 | c50+1,v46,v47,v48=>
   if (decide (v47<(a3.zay.length:Int)))=true then
    (idxL a3.zay v47).bind fun x55=>
    (zba v48 a1 a2 x55).bind fun x61=>
    (za2 x61.2).bind fun x63=>
    if x63=true then
     some (.inr ((0:Int),x61.2))
    else
     need (v46.length+[x61.1].length<=1073741824) <|
     zcJ zba a3 a1 a2 c50 (v46++[x61.1]) (IntKind.i64.wrap (v47+(1:Int))) x61.2
   else
    some (.inl (v46,v48))
def zeE (zdn:zai->zal->(List (List Int))->zag->Int->Option (Int × zai)) (zba:zai->zal->(List (List Int))->zag->Option (Int × zai)) (n:Nat) (a0:zai) (a1:zal) (a2:(List (List Int))) (a3:zag):Option (Int × zai):=
 if (decide (a3.Op_=([110,117,109]:Str)))=true then
  some ((IntKind.u64.wrap a3.N_),a0)
 else
  if (decide (a3.Op_=([118,97,114]:Str)))=true then
   (idxL a1.za1 a3.Var_).bind fun x4=>
   some (x4,a0)
  else
   if (decide (a3.Op_=([105,110,100,101,120]:Str)))=true then
    (idxL a3.zay (0:Int)).bind fun x12=>
    (zdn a0 a1 a2 x12 a3.Var_).bind fun x13=>
    (za2 x13.2).bind fun x20=>
    if x20=true then
     some ((0:Int),x13.2)
    else
     (idxL a1.zbk a3.Var_).bind fun x23=>
     (idxL a2 x23).bind fun x24=>
     (idxL x24 x13.1).bind fun x26=>
     some ((IntKind.u64.wrap x26),x13.2)
   else
    (zcJ zba a3 a1 a2 n [] (0:Int) a0).bind fun y49=>
    y49.elim (fun y49a=>
     (zjx a3.Op_ y49a.1).bind fun x74=>
     if x74.2=true then
      some (x74.1,y49a.2)
     else
      (zeF n y49a.2 a3 y49a.1).bind fun x77=>
      some (x77.1,x77.2)) (fun y49a=>
     some y49a)
def zeG (zba:zai->zal->(List (List Int))->zag->Option (Int × zai)) (n:Nat) (a0:zai) (a1:zal) (a2:(List (List Int))) (a3:zag) (a4:Int):Option (Int × zai):=
 (zba a0 a1 a2 a3).bind fun x2=>
 (za2 x2.2).bind fun x4=>
 if x4=true then
  some ((0:Int),x2.2)
 else
  (idxL a1.zbk a4).bind fun x7=>
  (idxL a2 x7).bind fun x8=>
  (zcj x2.2 (3:Int) (IntKind.u32.wrap x2.1) (IntKind.u32.wrap (x8.length:Int))).bind fun x22=>
  if (decide ((IntKind.u32.wrap (x8.length:Int))<=(IntKind.u32.wrap x2.1)))=true then
   some ((0:Int),({ x22 with zcG:=(1:Int) }:zai))
  else
   some ((IntKind.u32.wrap x2.1),x22)
def zcz:Nat->(zai->zal->(List (List Int))->zag->Option (Int × zai)) × (zai->zal->(List (List Int))->zag->Int->Option (Int × zai))
 | 0=>(fun _ _ _ _=>none,fun _ _ _ _ _=>none)
 | n+1=>(zeE (zcz n).2 (zcz n).1 n,zeG (zcz n).1 n)
def zbF (n:Nat):zai->zal->(List (List Int))->zag->Option (Int × zai):=(zcz n).1
def zfh (n:Nat):zai->zal->(List (List Int))->zag->Int->Option (Int × zai):=(zcz n).2
def zca (a0:zal) (a1:(List (List Int))) (a2:Int) (a3:Int):Option (zal × (List (List Int))):=
 if (decide ((0:Int)<=a2))=true then
  (idxL a0.za1 a2).bind fun x2=>
  some (({ a0 with za1:=(a0.za1.set a2.toNat a3) }:zal),a1)
 else
  some (a0,a1)
def zfg (n:Nat) (a0:zai) (a1:zal) (a2:(List (List Int))) (a3:zae):Option (zai × zal × (List (List Int))):=
 (idxL a3.zay (0:Int)).bind fun x2=>
 (zfh n a0 a1 a2 x2 a3.Var_).bind fun x3=>
 (za2 x3.2).bind fun x10=>
 if x10=true then
  some (x3.2,a1,a2)
 else
  (idxL a3.zay (1:Int)).bind fun x13=>
  (zbF n x3.2 a1 a2 x13).bind fun x14=>
  (za2 x14.2).bind fun x21=>
  if (!x21)=true then
   (idxL a1.zbk a3.Var_).bind fun x24=>
   (idxL a2 x24).bind fun x25=>
   (idxL x25 x3.1).bind fun x27=>
   some (x14.2,a1,(a2.set x24.toNat (x25.set x3.1.toNat (IntKind.u32.wrap x14.1))))
  else
   some (x14.2,a1,a2)
def zcK (zbw:zai->zal->(List (List Int))->zae->Option (zai × zal × (List (List Int)))) (a3:(List zae)):Nat->Int->zai->zal->(List (List Int))->Option ((zai × zal × (List (List Int))) ⊕ (zai × zal × (List (List Int))))
 | 0,_,_,_,_=>none
 | c7+1,v2,v3,v4,v5=>
   if (decide (v2<(a3.length:Int)))=true then
    ((idxL a3 v2).bind fun x15=>
      (za2 v3).bind fun x21=>
      if x21=true then
       some (.inr (v3,v4,v5))
      else
       (zed v3).bind fun x24=>
       (za2 x24).bind fun x26=>
       if (!x26)=true then
        (zbw x24 v4 v5 x15).bind fun x29=>
        some (.inl (x29.1,x29.2.1,x29.2.2))
       else
        some (.inl (x24,v4,v5)):Option ((zai × zal × (List (List Int))) ⊕ (zai × zal × (List (List Int))))).bind fun y14=>
    y14.elim (fun y14a=>
     zcK zbw a3 c7 (IntKind.i64.wrap (v2+(1:Int))) y14a.1 y14a.2.1 y14a.2.2) (fun y14a=>
     some (.inr y14a))
   else
    some (.inl (v3,v4,v5))
def zeH (zbw:zai->zal->(List (List Int))->zae->Option (zai × zal × (List (List Int)))) (n:Nat) (a0:zai) (a1:zal) (a2:(List (List Int))) (a3:(List zae)):Option (zai × zal × (List (List Int))):=
 (zcK zbw a3 n (0:Int) a0 a1 a2).bind fun y6=>
 y6.elim (fun y6a=>
  some (y6a.1,y6a.2.1,y6a.2.2)) (fun y6a=>
  some y6a)
def zdO (zdx:zai->zal->(List (List Int))->zae->Option (zai × zal × (List (List Int)))) (zc9:zai->zal->(List (List Int))->zae->Option (zai × zal × (List (List Int)))) (zc8:zai->zal->(List (List Int))->zae->Option (zai × zal × (List (List Int)))) (n:Nat) (a0:zai) (a1:zal) (a2:(List (List Int))) (a3:zae):Option (zai × zal × (List (List Int))):=
 if (decide (a3.Op_=([108,101,116]:Str)))=true then
  (idxL a3.zay (0:Int)).bind fun x3=>
  (zbF n a0 a1 a2 x3).bind fun x4=>
  (za2 x4.2).bind fun x11=>
  if (!x11)=true then
   (zca a1 a2 a3.Var_ x4.1).bind fun x14=>
   some (x4.2,x14.1,x14.2)
  else
   some (x4.2,a1,a2)
 else
  if (decide (a3.Op_=([118,97,114]:Str)))=true then
   (idxL a3.zay (0:Int)).bind fun x17=>
   (zbF n a0 a1 a2 x17).bind fun x18=>
   (za2 x18.2).bind fun x25=>
   if (!x25)=true then
    (zca a1 a2 a3.Var_ x18.1).bind fun x28=>
    some (x18.2,x28.1,x28.2)
   else
    some (x18.2,a1,a2)
  else
   if (decide (a3.Op_=([115,101,116]:Str)))=true then
    (idxL a3.zay (0:Int)).bind fun x31=>
    (zbF n a0 a1 a2 x31).bind fun x32=>
    (za2 x32.2).bind fun x39=>
    if (!x39)=true then
     (zca a1 a2 a3.Var_ x32.1).bind fun x42=>
     some (x32.2,x42.1,x42.2)
    else
     some (x32.2,a1,a2)
   else
    if (decide (a3.Op_=([97,114,114]:Str)))=true then
     (idxL a1.zbk a3.Var_).bind fun x45=>
     (idxL a2 x45).bind fun x46=>
     need (0<x46.length) <|
     some (a0,a1,(a2.set x45.toNat (List.replicate x46.length (0:Int))))
    else
     if (decide (a3.Op_=([112,117,116]:Str)))=true then
      (zfg n a0 a1 a2 a3).bind fun x64=>
      some (x64.1,x64.2.1,x64.2.2)
     else
      if (decide (a3.Op_=([99,97,108,108]:Str)))=true then
       (zdx a0 a1 a2 a3).bind fun x67=>
       some (x67.1,x67.2.1,x67.2.2)
      else
       if (decide (a3.Op_=([105,102]:Str)))=true then
        (zc9 a0 a1 a2 a3).bind fun x70=>
        some (x70.1,x70.2.1,x70.2.2)
       else
        if (decide (a3.Op_=([102,111,114]:Str)))=true then
         (zc8 a0 a1 a2 a3).bind fun x73=>
         some (x73.1,x73.2.1,x73.2.2)
        else
         if (decide (a3.Op_=([114,101,116,117,114,110]:Str)))=true then
          (idxL a3.zay (0:Int)).bind fun x76=>
          (zbF n a0 a1 a2 x76).bind fun x77=>
          some (x77.2,({ a1 with zgE:=x77.1 }:zal),a2)
         else
          some (a0,a1,a2)
def zmv (p:Nat):List zaD->Nat->Nat->List Int->List (List Int)->Option (List Int × List (List Int))
 | [],_,_,rs,hs=>some (rs,hs)
 | v::l,i,b,rs,hs=>if v.zbE=4 then need (0<v.zga/\v.zga<=1073741824) (zmv p l (i+1) b (rs.set (p+i) ((b+hs.length:Nat):Int)) (hs++[List.replicate v.zga.toNat (0:Int)])) else zmv p l (i+1) b rs hs
def zlf (f:zaH) (b:Nat):Option (zal × List (List Int)):=
 need (0<=f.zbf/\f.zbf<=(f.zbe.length:Int)/\f.zbe.length<=1000000) <|
 (zmv f.zbf.toNat (f.zbe.drop f.zbf.toNat) 0 b (List.replicate f.zbe.length (-1)) []).bind fun r=>
 some ((⟨f,List.replicate f.zbe.length 0,r.1,0⟩:zal),r.2)
def zjM (n:Nat) (fr:zal) (hs h2:List (List Int)):List zag->Nat->zai->zal->Option (zai ⊕ (zai × zal))
 | [],_,r,to=>some (.inr (r,to))
 | x::l,i,r,to=>
   if x.zcR=4 then
    (idxL fr.zbk x.Var_).bind fun k=>
    need (0<=k/\k<(hs.length:Int)/\i<to.zbk.length) <|
    zjM n fr hs h2 l (i+1) r { to with zbk:=to.zbk.set i k }
   else
    (zbF n r fr hs x).bind fun v=>
    (za2 v.2).bind fun e=>
    if e=true then some (.inl v.2) else
    (zca to (hs++h2) (i:Int) v.1).bind fun t=>
    zjM n fr hs h2 l (i+1) v.2 t.1
def zdW (zaP:zai->zal->(List (List Int))->(List zae)->Option (zai × zal × (List (List Int)))) (n:Nat) (a0:zai) (a1:zal) (a2:List (List Int)) (a3:zae):Option (zai × zal × List (List Int)):=
 need (a3.zay.length<=1000000) <|
 (idxL a0.p_.zbo a3.zhd).bind fun f=>
 (zlf f a2.length).bind fun o=>
 (zjM n a1 a2 o.2 a3.zay 0 a0 o.1).bind fun c=>c.elim (fun r=>some (r,a1,a2)) fun c=>
 (zaP c.1 c.2 (a2++o.2) c.2.f_.zdG).bind fun b=>
 (za2 b.1).bind fun e=>
 if e=true then some (b.1,a1,b.2.2.take a2.length) else
 if a3.Var_=-2 then some (b.1,({ a1 with zgE:=b.2.1.zgE }:zal),b.2.2.take a2.length) else
 (zca a1 (b.2.2.take a2.length) a3.Var_ b.2.1.zgE).bind fun p=>some (b.1,p.1,p.2)
def zem (zaP:zai->zal->(List (List Int))->(List zae)->Option (zai × zal × (List (List Int)))) (n:Nat) (a0:zai) (a1:zal) (a2:(List (List Int))) (a3:zae):Option (zai × zal × (List (List Int))):=
 (idxL a3.zay (0:Int)).bind fun x2=>
 (zbF n a0 a1 a2 x2).bind fun x3=>
 (za2 x3.2).bind fun x10=>
 if x10=true then
  some (x3.2,a1,a2)
 else
  if (x3.1 != (0:Int))=true then
   (zcj x3.2 (1:Int) (1:Int) (0:Int)).bind fun x14=>
   (zaP x14 a1 a2 a3.zdG).bind fun x16=>
   some (x16.1,x16.2.1,x16.2.2)
  else
   (zcj x3.2 (1:Int) (0:Int) (0:Int)).bind fun x18=>
   (zaP x18 a1 a2 a3.zip).bind fun x20=>
   some (x20.1,x20.2.1,x20.2.2)
def zcA (zaP:zai->zal->(List (List Int))->(List zae)->Option (zai × zal × (List (List Int)))) (x14:(Int × zai)) (a3:zae):Nat->Int->zai->zal->(List (List Int))->Option (zai × zal × (List (List Int)))
 | 0,_,_,_,_=>none
 | c32+1,v27,v28,v29,v30=>
   (if (decide (v27<(IntKind.u32.wrap x14.1)))=true then
      (za2 v28).bind fun x40=>
      some (!x40)
     else
      some false).bind fun y38=>
   if y38=true then
    (zed v28).bind fun x46=>
    (zca v29 v30 a3.Var_ (IntKind.u64.wrap v27)).bind fun x48=>
    (zaP x46 x48.1 x48.2 a3.zdG).bind fun x50=>
    zcA zaP x14 a3 c32 (IntKind.u32.wrap (v27+(1:Int))) x50.1 x50.2.1 x50.2.2
   else
    some (v28,v29,v30)
def zek (zaP:zai->zal->(List (List Int))->(List zae)->Option (zai × zal × (List (List Int)))) (n:Nat) (a0:zai) (a1:zal) (a2:(List (List Int))) (a3:zae):Option (zai × zal × (List (List Int))):=
 (idxL a3.zay (0:Int)).bind fun x2=>
 (zbF n a0 a1 a2 x2).bind fun x3=>
 (za2 x3.2).bind fun x10=>
 if x10=true then
  some (x3.2,a1,a2)
 else
  (idxL a3.zay (1:Int)).bind fun x13=>
  (zbF n x3.2 a1 a2 x13).bind fun x14=>
  (za2 x14.2).bind fun x21=>
  if x21=true then
   some (x14.2,a1,a2)
  else
   (zcj x14.2 (2:Int) (IntKind.u32.wrap x3.1) (IntKind.u32.wrap x14.1)).bind fun x24=>
   (zcA zaP x14 a3 n (IntKind.u32.wrap x3.1) x24 a1 a2).bind fun y31=>
   some (y31.1,y31.2.1,y31.2.2)
def zbl:Nat->(zai->zal->(List (List Int))->(List zae)->Option (zai × zal × (List (List Int)))) × (zai->zal->(List (List Int))->zae->Option (zai × zal × (List (List Int)))) × (zai->zal->(List (List Int))->zae->Option (zai × zal × (List (List Int)))) × (zai->zal->(List (List Int))->zae->Option (zai × zal × (List (List Int)))) × (zai->zal->(List (List Int))->zae->Option (zai × zal × (List (List Int))))
 | 0=>(fun _ _ _ _=>none,fun _ _ _ _=>none,fun _ _ _ _=>none,fun _ _ _ _=>none,fun _ _ _ _=>none)
 | n+1=>(zeH (zbl n).2.1 n,zdO (zbl n).2.2.1 (zbl n).2.2.2.1 (zbl n).2.2.2.2 n,zdW (zbl n).1 n,zem (zbl n).1 n,zek (zbl n).1 n)
def zfi (n:Nat):zai->zal->(List (List Int))->(List zae)->Option (zai × zal × (List (List Int))):=(zbl n).1
def zhB (n:Nat):zai->zal->(List (List Int))->zae->Option (zai × zal × (List (List Int))):=(zbl n).2.1
def zjR (n:Nat):zai->zal->(List (List Int))->zae->Option (zai × zal × (List (List Int))):=(zbl n).2.2.1
def zi2 (n:Nat):zai->zal->(List (List Int))->zae->Option (zai × zal × (List (List Int))):=(zbl n).2.2.2.1
def zi1 (n:Nat):zai->zal->(List (List Int))->zae->Option (zai × zal × (List (List Int))):=(zbl n).2.2.2.2
end Go.Proofs.YtldnmmnnohnpkaaGreatDoor.Abs
namespace Go.Proofs.YtldnmmnnohnpkaaGreatDoor.Abs
set_option linter.unusedVariables false
def outL (hs:List (List Int)):List zaD->Nat->List Int->List (List Int)->Option (List (List Int))
 | [],_,_,out=>some out
 | v::l,i,rs,out=>
   if v.zbE=4 then
    (idxL rs (i:Int)).bind fun k=>need (0<=k) <| (idxL hs k).bind fun a=>outL hs l (i+1) rs (out++[a])
   else outL hs l (i+1) rs out
def zle (r:zai) (fr:zal) (hs:List (List Int)):Option zbC:=
 need ((∀k ∈ fr.zbk,k<(hs.length:Int))/\0<=fr.f_.zbf/\fr.f_.zbf<=(fr.f_.zbe.length:Int)/\fr.f_.zbe.length<=1000000) <|
 (outL hs (fr.f_.zbe.take fr.f_.zbf.toNat) 0 fr.zbk []).bind fun a=>some ⟨r.zcG,if r.zcG=0 then fr.zgE else 0,a,r.za3⟩
def zkL (a:zbm):List zaD->Nat->Nat->Nat->zal->List (List Int)->Option (zal × List (List Int))
 | [],_,_,_,to,hs=>some (to,hs)
 | v::l,i,w,k,to,hs=>
   if v.zbE=4 then
    (idxL a.zhU (k:Int)).bind fun x=>need (0<x.length/\x.length<=1073741824/\i<to.zbk.length) <|
    zkL a l (i+1) w (k+1) { to with zbk:=to.zbk.set i (hs.length:Int) } (hs++[x])
   else
    (idxL a.zkX (w:Int)).bind fun x=>need (i<to.za1.length) <|
    zkL a l (i+1) (w+1) k { to with za1:=to.za1.set i x } hs
def zjK (n:Nat) (p:zat) (fn:Int) (a:zbm) (fuel:Int):Option (zbC × Int):=
 if fn<0 ∨ (p.zbo.length:Int)<=fn then some (zbC.Z,11) else
 (idxL p.zbo fn).bind fun f=>
 (zlf f 0).bind fun o=>
 (zkl n f a).bind fun ft=>
 if ft=false then some (zbC.Z,10) else
 (zkL a (f.zbe.take f.zbf.toNat) 0 0 0 o.1 o.2).bind fun t=>
 (zfi n ⟨p,fuel,0,0,[]⟩ t.1 t.2 f.zdG).bind fun b=>
 if b.1.e_ ≠ 0 then some (zbC.Z,b.1.e_) else
 (zle b.1 b.2.1 b.2.2).bind fun x=>some (x,0)
end Go.Proofs.YtldnmmnnohnpkaaGreatDoor.Abs
namespace Go.Proofs.YtldnmmnnohnpkaaGreatDoor.Abs
set_option linter.unusedVariables false
open Go.RowKit
def zdU (n:Nat):Option Bool:=
 (zkp n ([101,120,112,111,114,116,32,102,110,32,102,40,112,58,32,112,117,98,44,32,120,58,32,117,51,50,41,32,45,62,32,117,51,50,32,123,32,114,101,116,117,114,110,32,120,32,43,32,49,48,32,47,32,112,59,32,125]:Str)).bind fun x1=>
 (if (x1.2.1 != (0:Int))=true then
    some true
   else
    some ((x1.1.zbo.length:Int) != (1:Int))).bind fun y4=>
 if y4=true then
  some false
 else
  (zjK n x1.1 (0:Int) (zbm.mk [(0:Int),(1:Int)] []) (9:Int)).bind fun x10=>
  (zjK n x1.1 (0:Int) (zbm.mk [(3:Int),(1:Int)] []) (9:Int)).bind fun x13=>
  (if (x10.2 == (0:Int))=true then
     if (x13.2 == (0:Int))=true then
      if (x10.1.zn9 == (2:Int))=true then
       if (x13.1.zn9 == (0:Int))=true then
        some (x13.1.zcD == (4:Int))
       else
        some false
      else
       some false
     else
      some false
    else
     some false).bind fun y16=>
  some y16
def zaV:List Str:=[([124]:Str),([94]:Str),([38]:Str),([61,61]:Str),([60]:Str),([60,60]:Str),([62,62]:Str),([60,60,60]:Str),([43]:Str),([45]:Str),([42]:Str),([47]:Str),([37]:Str),([110,111,116]:Str),([110,101,103]:Str)]
def zbZ:List Int:=[(5:Int),(6:Int),(7:Int),(8:Int),(9:Int),(10:Int),(11:Int),(12:Int),(13:Int),(14:Int),(15:Int),(16:Int),(17:Int),(3:Int),(4:Int)]
def zbI (n:Nat) (a0:Str):Nat->Int->Int->Option (Int ⊕ Bool)
 | 0,_,_=>none
 | c10+1,v7,v8=>
   if (decide (v8<(15:Int)))=true then
    ((idxL zaV v8).bind fun x16=>
      if (decide (x16=a0))=true then
       (idxL zbZ v8).bind fun x26=>
       (zet n x16).bind fun x35=>
       if (x35 != x26)=true then
        some (.inr false)
       else
        some (.inl x26)
      else
       (zet n x16).bind fun x38=>
       (idxL zbZ v8).bind fun x39=>
       if (x38 != x39)=true then
        some (.inr false)
       else
        some (.inl v7):Option (Int ⊕ Bool)).bind fun y15=>
    y15.elim (fun y15a=>
     zbI n a0 c10 y15a (IntKind.i64.wrap (v8+(1:Int)))) (fun y15a=>
     some (.inr y15a))
   else
    some (.inl v7)
def zce (n:Nat) (a0:Str):Option Bool:=
 (zdU n).bind fun x1=>
 if (!x1)=true then
  some false
 else
  (zbI n a0 n (0:Int) (0:Int)).bind fun y9=>
  y9.elim (fun y9a=>
   (zet n a0).bind fun x55=>
   some (x55 == y9a)) (fun y9a=>
   some y9a)
end Go.Proofs.YtldnmmnnohnpkaaGreatDoor.Abs
