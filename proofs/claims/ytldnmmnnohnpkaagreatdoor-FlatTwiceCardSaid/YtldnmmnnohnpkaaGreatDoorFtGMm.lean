/-
 Plain models of functions. Written by a program of mine (gen.py) for this claim.
-/
import Derived.Test.YtldnmmnnohnpkaaGreatDoorFtS3
namespace Go.Proofs.YtldnmmnnohnpkaaGreatDoor.Abs
open Go.RowKit
set_option linter.unusedVariables false
structure zax where
 zpZ:Str
 args_:Int
def zax.C (x:zax):List V:=[.lit (.string (bs x.zpZ)),.lit (.int .i64 x.args_)]
@[go_sem] theorem zax.C_eq (x:zax):zax.C x=[.lit (.string (bs x.zpZ)),.lit (.int .i64 x.args_)]:=_root_.id rfl
structure T_anon_sign_op where
 sign_:Str
 op_:Int
structure zbf where
 za3:Int
 At_:Int
 za5:Str
 Num_:Int
def zbf.C (x:zbf):List V:=[.lit (.int .i64 x.za3),.lit (.int .i64 x.At_),.lit (.string (bs x.za5)),.lit (.int .u32 x.Num_)]
@[go_sem] theorem zbf.C_eq (x:zbf):zbf.C x=[.lit (.int .i64 x.za3),.lit (.int .i64 x.At_),.lit (.string (bs x.za5)),.lit (.int .u32 x.Num_)]:=_root_.id rfl
structure zaa where
 za3:Int
 At_:Int
 za5:Str
 Num_:Int
 zas:(List zaa)
mutual
def zaa.C:zaa->List V
 | ⟨a0,a1,a2,a3,a4⟩=>[.lit (.int .i64 a0),.lit (.int .i64 a1),.lit (.string (bs a2)),.lit (.int .u32 a3),.list .none (zaa.CL a4)]
def zaa.CL:List zaa->List (List V)
 | []=>[]
 | x::l=>zaa.C x::zaa.CL l
end
theorem zaa.CL_eq (l:List zaa):zaa.CL l=l.map zaa.C:=by
 induction l with
 | nil=>rfl
 | cons x l ih=>rw [zaa.CL,ih];rfl
@[go_sem] theorem zaa.C_eq (x:zaa):zaa.C x=[.lit (.int .i64 x.za3),.lit (.int .i64 x.At_),.lit (.string (bs x.za5)),.lit (.int .u32 x.Num_),.list .none (x.zas.map zaa.C)]:=by
 cases x;simp only [zaa.C,zaa.CL_eq]
structure zab where
 l_:(List zbf)
 at_:Int
 zgk:Int
 e_:Int
 zj8:Int
def zab.C (x:zab):List V:=[.list .none (x.l_.map zbf.C),.lit (.int .i64 x.at_),.lit (.int .i64 x.zgk),.lit (.int .i64 x.e_),.lit (.int .i64 x.zj8)]
@[go_sem] theorem zab.C_eq (x:zab):zab.C x=[.list .none (x.l_.map zbf.C),.lit (.int .i64 x.at_),.lit (.int .i64 x.zgk),.lit (.int .i64 x.e_),.lit (.int .i64 x.zj8)]:=_root_.id rfl
structure zar where
 zco:Str
 za3:Int
 zfQ:Int
def zar.C (x:zar):List V:=[.lit (.string (bs x.zco)),.lit (.int .i64 x.za3),.lit (.int .i64 x.zfQ)]
@[go_sem] theorem zar.C_eq (x:zar):zar.C x=[.lit (.string (bs x.zco)),.lit (.int .i64 x.za3),.lit (.int .i64 x.zfQ)]:=_root_.id rfl
structure zaf where
 Op_:Str
 zbg:Int
 N_:Int
 Var_:Int
 zas:(List zaf)
 At_:Int
mutual
def zaf.C:zaf->List V
 | ⟨a0,a1,a2,a3,a4,a5⟩=>[.lit (.string (bs a0)),.lit (.int .i64 a1),.lit (.int .u32 a2),.lit (.int .i64 a3),.list .none (zaf.CL a4),.lit (.int .i64 a5)]
def zaf.CL:List zaf->List (List V)
 | []=>[]
 | x::l=>zaf.C x::zaf.CL l
end
theorem zaf.CL_eq (l:List zaf):zaf.CL l=l.map zaf.C:=by
 induction l with
 | nil=>rfl
 | cons x l ih=>rw [zaf.CL,ih];rfl
@[go_sem] theorem zaf.C_eq (x:zaf):zaf.C x=[.lit (.string (bs x.Op_)),.lit (.int .i64 x.zbg),.lit (.int .u32 x.N_),.lit (.int .i64 x.Var_),.list .none (x.zas.map zaf.C),.lit (.int .i64 x.At_)]:=by
 cases x;simp only [zaf.C,zaf.CL_eq]
structure zac where
 Op_:Str
 Var_:Int
 zeD:Int
 zas:(List zaf)
 zba:(List zac)
 zeO:(List zac)
 At_:Int
mutual
def zac.C:zac->List V
 | ⟨a0,a1,a2,a3,a4,a5,a6⟩=>[.lit (.string (bs a0)),.lit (.int .i64 a1),.lit (.int .i64 a2),.list .none (a3.map zaf.C),.list .none (zac.CL a4),.list .none (zac.CL a5),.lit (.int .i64 a6)]
def zac.CL:List zac->List (List V)
 | []=>[]
 | x::l=>zac.C x::zac.CL l
end
theorem zac.CL_eq (l:List zac):zac.CL l=l.map zac.C:=by
 induction l with
 | nil=>rfl
 | cons x l ih=>rw [zac.CL,ih];rfl
@[go_sem] theorem zac.C_eq (x:zac):zac.C x=[.lit (.string (bs x.Op_)),.lit (.int .i64 x.Var_),.lit (.int .i64 x.zeD),.list .none (x.zas.map zaf.C),.list .none (x.zba.map zac.C),.list .none (x.zeO.map zac.C),.lit (.int .i64 x.At_)]:=by
 cases x;simp only [zac.C,zac.CL_eq]
structure zao where
 zco:Str
 zbr:Bool
 zaX:Int
 zaE:Int
 zaJ:(List zar)
 zba:(List zac)
def zao.C (x:zao):List V:=[.lit (.string (bs x.zco)),.lit (.bool x.zbr),.lit (.int .i64 x.zaX),.lit (.int .i64 x.zaE),.list .none (x.zaJ.map zar.C),.list .none (x.zba.map zac.C)]
@[go_sem] theorem zao.C_eq (x:zao):zao.C x=[.lit (.string (bs x.zco)),.lit (.bool x.zbr),.lit (.int .i64 x.zaX),.lit (.int .i64 x.zaE),.list .none (x.zaJ.map zar.C),.list .none (x.zba.map zac.C)]:=_root_.id rfl
structure zaz where
 zaB:(List zao)
def zaz.C (x:zaz):List V:=[.list .none (x.zaB.map zao.C)]
@[go_sem] theorem zaz.C_eq (x:zaz):zaz.C x=[.list .none (x.zaB.map zao.C)]:=_root_.id rfl
def zaz.Z:zaz:=⟨[]⟩
structure zag where
 e_:Int
 zj8:Int
structure zae where
 p_:zaz
 f_:Int
 zaG:List Int
 za0:List (List Int)
 at_:Int
def zae.Z:zae:=⟨zaz.Z,-1,[],[],0⟩
def ckC (F fp S C:V) (x:zae) (y:zag):List V:=[F,fp,S,C,.lit (.int .i64 x.at_),.lit (.int .i64 y.e_),.lit (.int .i64 y.zj8)]
@[go_sem] theorem ckC_eq {F fp S C:V} {x:zae} {y:zag}:ckC F fp S C x y=[F,fp,S,C,.lit (.int .i64 x.at_),.lit (.int .i64 y.e_),.lit (.int .i64 y.zj8)]:=_root_.id rfl
def zbQ:List Str:=[[45,62],[46,46],[61,61],[60,60,60],[60,60],[62,62],[60],[40],[41],[123],[125],[91],[93],[44],[59],[58],[61],[43],[45],[42],[47],[37],[38],[124],[94],[126]]
@[go_sem] theorem zp7:(cA cS zbQ).length=26:=by kernel_rfl
@[go_sem] theorem zpg:(cA cS zbQ).take 26=(cA cS zbQ):=by kernel_rfl
def zaW:List Str:=[[102,110],[101,120,112,111,114,116],[108,101,116],[118,97,114],[97,114,114],[105,102],[101,108,115,101],[102,111,114],[105,110],[114,101,116,117,114,110],[112,117,98],[117,51,50],[117,54,52]]
@[go_sem] theorem zoU:(cA cS zaW).length=13:=by kernel_rfl
@[go_sem] theorem znS:zkI 1 13 (cA cS zaW)=zaW.map cS:=_root_.id rfl
def zbc:List (List Str):=[[[124],[],[]],[[94],[],[]],[[38],[],[]],[[61,61],[60],[]],[[60,60],[62,62],[60,60,60]],[[43],[45],[]],[[42],[47],[37]]]
def za1:List zax:=[(zax.mk [115,101,108,101,99,116] 3),(zax.mk [108,111,110,103] 1),(zax.mk [108,111] 1),(zax.mk [104,105] 1),(zax.mk [119,105,100,101] 2)]
@[go_sem] theorem zoV:(cA zax.C za1).length=10:=by kernel_rfl
@[go_sem] theorem zoj:(cA zax.C za1).take 10=(cA zax.C za1):=by kernel_rfl
@[go_sem] theorem znl:(cA zax.C za1).map V.shared=(cA zax.C za1):=_root_.id rfl
def zjF (a0:Int):Option Bool:=
 (if (a0 == (32:Int))=true then
    some true
   else
    if (a0 == (9:Int))=true then
     some true
    else
     if (a0 == (13:Int))=true then
      some true
     else
      some (a0 == (10:Int))).bind fun y1=>
 some y1
def zbW (a0:Str) (a1:Str):Option Bool:=
 (if (decide ((a1.length:Int)<=(a0.length:Int)))=true then
    need ((0:Int)<=(a1.length:Int)/\(a1.length:Int)<=(a0.length:Int)) <|
    some (decide ((a0.take (a1.length:Int).toNat)=a1))
   else
    some false).bind fun y1=>
 some y1
def zes (a0:Str) (a1:Str):Option Bool:=
 (zbW a0 a1).bind fun x1=>
 some x1
def zeP (a0:Str) (a1:Int):Option Int:=some (Lib.indexByte a0 a1.toNat.toUInt8)
def zd8 (a0:Str) (a1:Int):Option Int:=
 (zeP a0 a1).bind fun x1=>
 some x1
def zer (a0:Str) (a1:Int):Option Int:=
 (zd8 a0 a1).bind fun x1=>
 some x1
def zfv (a0:Str):Nat->Int->Option (Int ⊕ Int)
 | 0,_=>none
 | c4+1,v2=>
   if (decide (v2<(a0.length:Int)))=true then
    (idxL a0 v2).bind fun x9=>
    (zjF (x9.toNat:Int)).bind fun x10=>
    if x10=true then
     zfv a0 c4 (IntKind.i64.wrap (v2+(1:Int)))
    else
     need ((0:Int)<=v2/\v2<=(a0.length:Int)) <|
     (zes (a0.drop v2.toNat) ([47,47]:Str)).bind fun x17=>
     if x17=true then
      need ((0:Int)<=v2/\v2<=(a0.length:Int)) <|
      (zer (a0.drop v2.toNat) (10:Int)).bind fun x22=>
      if (decide (x22<(0:Int)))=true then
       some (.inr (a0.length:Int))
      else
       zfv a0 c4 (IntKind.i64.wrap (v2+x22))
     else
      some (.inr v2)
   else
    some (.inl v2)
def zjW (n:Nat) (a0:Str) (a1:Int):Option Int:=
 (zfv a0 n a1).bind fun y3=>
 y3.elim (fun y3a=>
  some y3a) (fun y3a=>
  some y3a)
def zg9 (a0:Int):Option Bool:=
 (if (decide ((97:Int)<=a0))=true then
    if (decide (a0<=(122:Int)))=true then
     some true
    else
     some (a0 == (95:Int))
   else
    some (a0 == (95:Int))).bind fun y1=>
 some y1
def ziu (a0:Int):Option Bool:=
 (if (decide ((48:Int)<=a0))=true then
    some (decide (a0<=(57:Int)))
   else
    some false).bind fun y1=>
 some y1
def zfK (a0:Str):Nat->Int->Option (Unit ⊕ Str)
 | 0,_=>none
 | c4+1,v2=>
   if (decide (v2<(a0.length:Int)))=true then
    ((idxL a0 v2).bind fun x10=>
      (zg9 (x10.toNat:Int)).bind fun x11=>
      if (!x11)=true then
       (ziu (x10.toNat:Int)).bind fun x18=>
       some (!x18)
      else
       some false).bind fun y9=>
    if y9=true then
     need ((0:Int)<=v2/\v2<=(a0.length:Int)) <|
     some (.inr (a0.take v2.toNat))
    else
     zfK a0 c4 (IntKind.i64.wrap (v2+(1:Int)))
   else
    some (.inl ())
def zkB (n:Nat) (a0:Str):Option Str:=
 (zfK a0 n (0:Int)).bind fun y3=>
 y3.elim (fun y3a=>
  some a0) (fun y3a=>
  some y3a)
def zcT (a0:Str) (a1:Str):Option (Str × Bool):=
 (zbW a0 a1).bind fun x1=>
 if (!x1)=true then
  some (a0,false)
 else
  need ((0:Int)<=(a1.length:Int)/\(a1.length:Int)<=(a0.length:Int)) <|
  some ((a0.drop (a1.length:Int).toNat),true)
def zeS (a0:Str) (a1:Str):Option (Str × Bool):=
 (zcT a0 a1).bind fun x1=>
 some (x1.1,x1.2)
def zfu (x1:(Str × Bool)):Nat->Int->Int->Option (Int ⊕ (Int × Bool))
 | 0,_,_=>none
 | c8+1,v5,v6=>
   if (decide (v6<(x1.1.length:Int)))=true then
    need ((0:Int)<=(16:Int)/\(16:Int)<=(([48,49,50,51,52,53,54,55,56,57,97,98,99,100,101,102]:Str).length:Int)) <|
    (idxL x1.1 v6).bind fun x13=>
    (zer (([48,49,50,51,52,53,54,55,56,57,97,98,99,100,101,102]:Str).take (16:Int).toNat) (x13.toNat:Int)).bind fun x14=>
    (if (decide (x14<(0:Int)))=true then
       some true
      else
       some (decide ((4294967295:Int)<(IntKind.i64.wrap ((IntKind.i64.wrap (v5*(16:Int)))+x14))))).bind fun y22=>
    if y22=true then
     some (.inr ((0:Int),false))
    else
     zfu x1 c8 (IntKind.i64.wrap ((IntKind.i64.wrap (v5*(16:Int)))+x14)) (IntKind.i64.wrap (v6+(1:Int)))
   else
    some (.inl v5)
def zft (a0:Str):Nat->Int->Int->Option (Int ⊕ (Int × Bool))
 | 0,_,_=>none
 | c32+1,v29,v30=>
   if (decide (v30<(a0.length:Int)))=true then
    need ((0:Int)<=(10:Int)/\(10:Int)<=(([48,49,50,51,52,53,54,55,56,57,97,98,99,100,101,102]:Str).length:Int)) <|
    (idxL a0 v30).bind fun x37=>
    (zer (([48,49,50,51,52,53,54,55,56,57,97,98,99,100,101,102]:Str).take (10:Int).toNat) (x37.toNat:Int)).bind fun x38=>
    (if (decide (x38<(0:Int)))=true then
       some true
      else
       some (decide ((4294967295:Int)<(IntKind.i64.wrap ((IntKind.i64.wrap (v29*(10:Int)))+x38))))).bind fun y46=>
    if y46=true then
     some (.inr ((0:Int),false))
    else
     zft a0 c32 (IntKind.i64.wrap ((IntKind.i64.wrap (v29*(10:Int)))+x38)) (IntKind.i64.wrap (v30+(1:Int)))
   else
    some (.inl v29)
def zjE (n:Nat) (a0:Str):Option (Int × Bool):=
 (zeS a0 ([48,120]:Str)).bind fun x1=>
 if x1.2=true then
  (zfu x1 n (0:Int) (0:Int)).bind fun y7=>
  y7.elim (fun y7a=>
   some ((IntKind.u32.wrap y7a),(decide (x1.1 ≠ ([]:Str))))) (fun y7a=>
   some y7a)
 else
  (zft a0 n (0:Int) (0:Int)).bind fun y31=>
  y31.elim (fun y31a=>
   some ((IntKind.u32.wrap y31a),(decide (a0 ≠ ([]:Str))))) (fun y31a=>
   some y31a)
def zfL (a0:Str):Nat->Int->Option (Unit ⊕ Str)
 | 0,_=>none
 | c4+1,v2=>
   if (decide (v2<(26:Int)))=true then
    (idxL zbQ v2).bind fun x9=>
    (zes a0 x9).bind fun x17=>
    if x17=true then
     some (.inr x9)
    else
     zfL a0 c4 (IntKind.i64.wrap (v2+(1:Int)))
   else
    some (.inl ())
def zkC (n:Nat) (a0:Str):Option Str:=
 (zfL a0 n (0:Int)).bind fun y3=>
 y3.elim (fun y3a=>
  some ([]:Str)) (fun y3a=>
  some y3a)
def zkD (n:Nat) (a0:Str) (a1:Int):Option (zbf × Int):=
 need ((0:Int)<=a1/\a1<=(a0.length:Int)) <|
 (zkB n (a0.drop a1.toNat)).bind fun x2=>
 (idxL a0 a1).bind fun x7=>
 (zg9 (x7.toNat:Int)).bind fun x8=>
 if x8=true then
  if (decide ((32:Int)<(x2.length:Int)))=true then
   some ((zbf.mk (0:Int) (0:Int) [] (0:Int)),(102:Int))
  else
   some ((zbf.mk (1:Int) a1 x2 (0:Int)),(0:Int))
 else
  (ziu (x7.toNat:Int)).bind fun x16=>
  if x16=true then
   (zjE n x2).bind fun x19=>
   if (!x19.2)=true then
    some ((zbf.mk (0:Int) (0:Int) [] (0:Int)),(101:Int))
   else
    some ((zbf.mk (2:Int) a1 x2 x19.1),(0:Int))
  else
   need ((0:Int)<=a1/\a1<=(a0.length:Int)) <|
   (zkC n (a0.drop a1.toNat)).bind fun x22=>
   if (decide (x22=([]:Str)))=true then
    some ((zbf.mk (0:Int) (0:Int) [] (0:Int)),(100:Int))
   else
    some ((zbf.mk (3:Int) a1 x22 (0:Int)),(0:Int))
def ze8 (n:Nat) (a0:Str):Nat->(List zbf)->Int->Option ((List zbf) ⊕ ((List zbf) × Int × Int))
 | 0,_,_=>none
 | c8+1,v5,v6=>
   if (decide (v6<(a0.length:Int)))=true then
    (zkD n a0 v6).bind fun x13=>
    if (x13.2 != (0:Int))=true then
     some (.inr ([],x13.2,v6))
    else
     need (v5.length+[x13.1].length<=1073741824) <|
     (zjW n a0 (IntKind.i64.wrap (v6+(x13.1.za5.length:Int)))).bind fun x20=>
     ze8 n a0 c8 (v5++[x13.1]) x20
   else
    some (.inl v5)
def zit (n:Nat) (a0:Str):Option ((List zbf) × Int × Int):=
 if (decide ((65536:Int)<(a0.length:Int)))=true then
  some ([],(161:Int),(0:Int))
 else
  (zjW n a0 (0:Int)).bind fun x2=>
  (ze8 n a0 n [] x2).bind fun y7=>
  y7.elim (fun y7a=>
   need (y7a.length+[(zbf.mk (4:Int) (a0.length:Int) [] (0:Int))].length<=1073741824) <|
   some ((y7a++[(zbf.mk (4:Int) (a0.length:Int) [] (0:Int))]),(0:Int),(0:Int))) (fun y7a=>
   some y7a)
def zbA (a0:zab):Option zbf:=
 (idxL a0.l_ a0.at_).bind fun x2=>
 some x2
def zcw (a0:zab) (a1:Int):Option zab:=
 if (a0.e_ == (0:Int))=true then
  (zbA a0).bind fun x2=>
  some ({ a0 with e_:=a1,zj8:=x2.At_ }:zab)
 else
  some a0
def zbG (a0:zab) (a1:Int):Option (zaa × zab):=
 if (decide ((16384:Int)<(IntKind.i64.wrap (a0.zgk+(1:Int)))))=true then
  (zcw ({ a0 with zgk:=(IntKind.i64.wrap (a0.zgk+(1:Int))) }:zab) (136:Int)).bind fun x3=>
  (zbA x3).bind fun x5=>
  some ((zaa.mk a1 x5.At_ [] (0:Int) []),x3)
 else
  (zbA ({ a0 with zgk:=(IntKind.i64.wrap (a0.zgk+(1:Int))) }:zab)).bind fun x7=>
  some ((zaa.mk a1 x7.At_ [] (0:Int) []),({ a0 with zgk:=(IntKind.i64.wrap (a0.zgk+(1:Int))) }:zab))
def zbx (a0:(List Str)) (a1:Str):Nat->Int->Option (Unit ⊕ Int)
 | 0,_=>none
 | c4+1,v2=>
   if (decide (v2<(a0.length:Int)))=true then
    (idxL a0 v2).bind fun x9=>
    if (decide (a1=x9))=true then
     some (.inr v2)
    else
     zbx a0 a1 c4 (IntKind.i64.wrap (v2+(1:Int)))
   else
    some (.inl ())
def zdf (n:Nat) (a0:(List Str)) (a1:Str):Option Int:=
 (zbx a0 a1 n (0:Int)).bind fun y3=>
 y3.elim (fun y3a=>
  some (-1:Int)) (fun y3a=>
  some y3a)
def zcK (n:Nat) (a0:(List Str)) (a1:Str):Option Bool:=
 (zdf n a0 a1).bind fun x1=>
 some (decide ((0:Int)<=x1))
def zg8 (n:Nat) (a0:Str):Option Bool:=
 (zcK n zaW a0).bind fun x1=>
 some x1
def zcL (n:Nat) (a0:zab) (a1:Str):Option Bool:=
 (zbA a0).bind fun x1=>
 (if (a0.e_ == (0:Int))=true then
    if (decide (x1.za5=a1))=true then
     if (x1.za3 == (3:Int))=true then
      some true
     else
      if (x1.za3 == (1:Int))=true then
       (zg8 n a1).bind fun x9=>
       some x9
      else
       some false
    else
     some false
   else
    some false).bind fun y4=>
 some y4
def zaK (n:Nat) (a0:zab) (a1:Str):Option (Bool × zab):=
 (zcL n a0 a1).bind fun x1=>
 if (!x1)=true then
  some (false,a0)
 else
  some (true,({ a0 with at_:=(IntKind.i64.wrap (a0.at_+(1:Int))) }:zab))
def zaF (n:Nat) (a0:zab) (a1:Str):Option zab:=
 (zaK n a0 a1).bind fun x1=>
 if (!x1.1)=true then
  (zcw x1.2 (110:Int)).bind fun x4=>
  some x4
 else
  some x1.2
def zby (n:Nat) (a0:zab):Option (Str × zab):=
 (zbA a0).bind fun x1=>
 (if (a0.e_ != (0:Int))=true then
    some true
   else
    if (x1.za3 != (1:Int))=true then
     some true
    else
     (zg8 n x1.za5).bind fun x7=>
     some x7).bind fun y4=>
 if y4=true then
  (zcw a0 (110:Int)).bind fun x13=>
  some (([]:Str),x13)
 else
  some (x1.za5,({ a0 with at_:=(IntKind.i64.wrap (a0.at_+(1:Int))) }:zab))
def zc7 (a0:zab):Option (Int × zab):=
 (zbA a0).bind fun x1=>
 (if (a0.e_ != (0:Int))=true then
    some true
   else
    some (x1.za3 != (2:Int))).bind fun y4=>
 if y4=true then
  (zcw a0 (110:Int)).bind fun x10=>
  some ((0:Int),x10)
 else
  some (x1.Num_,({ a0 with at_:=(IntKind.i64.wrap (a0.at_+(1:Int))) }:zab))
def zdN (n:Nat) (a0:zab):Option (Int × zab):=
 (zaF n a0 ([91]:Str)).bind fun x1=>
 (zc7 x1).bind fun x3=>
 (zaF n x3.2 ([93]:Str)).bind fun x5=>
 some (x3.1,x5)
def ze3:List Str:=[([112,117,98]:Str),([117,51,50]:Str),([117,54,52]:Str)]
def zcu (n:Nat):Nat->Int->zab->zaa->zaa->Option ((zab × zaa × zaa) ⊕ (zaa × zab))
 | 0,_,_,_,_=>none
 | c15+1,v10,v11,v12,v13=>
   if (decide (v10<(3:Int)))=true then
    (idxL ze3 v10).bind fun x20=>
    (zaK n v11 x20).bind fun x29=>
    if x29.1=true then
     some (.inr (({ v13 with Num_:=(IntKind.u32.wrap (IntKind.i64.wrap ((1:Int)+v10))) }:zaa),x29.2))
    else
     zcu n c15 (IntKind.i64.wrap (v10+(1:Int))) x29.2 v12 v13
   else
    some (.inl (v11,v12,v13))
def zeh (n:Nat) (a0:zab):Option (zaa × zab):=
 (zbG a0 (3:Int)).bind fun x2=>
 (zby n x2.2).bind fun x5=>
 (zaF n x5.2 ([58]:Str)).bind fun x7=>
 (zcu n n (0:Int) x7 (zaa.mk (0:Int) (0:Int) [] (0:Int) []) ({ x2.1 with za5:=x5.1 }:zaa)).bind fun y14=>
 y14.elim (fun y14a=>
  (zbG y14a.1 (14:Int)).bind fun x37=>
  (zdN n x37.2).bind fun x40=>
  some (({ y14a.2.2 with Num_:=(4:Int),zas:=[({ x37.1 with Num_:=x40.1 }:zaa)] }:zaa),x40.2)) (fun y14a=>
  some y14a)
def zbH (n:Nat):Nat->(List zaa)->zab->Option ((List zaa) × zab)
 | 0,_,_=>none
 | c11+1,v8,v9=>
   if (v9.e_ == (0:Int))=true then
    (zeh n v9).bind fun x16=>
    need (v8.length+[x16.1].length<=1073741824) <|
    (zaK n x16.2 ([44]:Str)).bind fun x21=>
    if (!x21.1)=true then
     some ((v8++[x16.1]),x21.2)
    else
     zbH n c11 (v8++[x16.1]) x21.2
   else
    some (v8,v9)
def zbX (n:Nat) (a0:zab):Option ((List zaa) × zab):=
 (zaF n a0 ([40]:Str)).bind fun x1=>
 (zaK n x1 ([41]:Str)).bind fun x3=>
 if x3.1=true then
  some ([],x3.2)
 else
  ((zbH n n [] x3.2).bind fun y10=>
    some (y10.1,y10.2)).bind fun y6=>
  (zaF n y6.2 ([41]:Str)).bind fun x27=>
  some (y6.1,x27)
def zdP (a0:zab) (a1:Int):Option zab:=
 if (decide ((64:Int)<a1))=true then
  (zcw a0 (111:Int)).bind fun x2=>
  some x2
 else
  some a0
def zcC (n:Nat) (x1:(List Str)) (a0:zab):Nat->Int->Option (Unit ⊕ Str)
 | 0,_=>none
 | c15+1,v13=>
   if (decide (v13<(3:Int)))=true then
    (idxL x1 v13).bind fun x20=>
    (if (decide (x20 ≠ ([]:Str)))=true then
       (zcL n a0 x20).bind fun x31=>
       some x31
      else
       some false).bind fun y29=>
    if y29=true then
     some (.inr x20)
    else
     zcC n x1 a0 c15 (IntKind.i64.wrap (v13+(1:Int)))
   else
    some (.inl ())
def zdO (n:Nat) (a0:zab) (a1:Int):Option Str:=
 (idxL zbc a1).bind fun x1=>
 (zcC n x1 a0 n (0:Int)).bind fun y14=>
 y14.elim (fun y14a=>
  some ([]:Str)) (fun y14a=>
  some y14a)
def zbp (zbv:zab->Int->Option (zaa × zab)) (n:Nat) (a1:Int):Nat->(List zaa)->zab->Option ((List zaa) × zab)
 | 0,_,_=>none
 | c11+1,v8,v9=>
   if (v9.e_ == (0:Int))=true then
    (zbv v9 a1).bind fun x16=>
    need (v8.length+[x16.1].length<=1073741824) <|
    (zaK n x16.2 ([44]:Str)).bind fun x21=>
    if (!x21.1)=true then
     some ((v8++[x16.1]),x21.2)
    else
     zbp zbv n a1 c11 (v8++[x16.1]) x21.2
   else
    some (v8,v9)
def zb9 (zbv:zab->Int->Option (zaa × zab)) (n:Nat) (a0:zab) (a1:Int):Option ((List zaa) × zab):=
 (zaF n a0 ([40]:Str)).bind fun x1=>
 (zaK n x1 ([41]:Str)).bind fun x3=>
 if x3.1=true then
  some ([],x3.2)
 else
  ((zbp zbv n a1 n [] x3.2).bind fun y10=>
    some (y10.1,y10.2)).bind fun y6=>
  (zaF n y6.2 ([41]:Str)).bind fun x27=>
  some (y6.1,x27)
def zd0 (za8:zab->Int->Int->Option (zaa × zab)) (n:Nat) (a0:zab) (a1:Int):Option (zaa × zab):=
 (za8 a0 (0:Int) a1).bind fun x2=>
 some (x2.1,x2.2)
def zcv (za8:zab->Int->Int->Option (zaa × zab)) (n:Nat) (a1:Int) (a2:Int):Nat->Str->zab->zaa->Option (zab × zaa)
 | 0,_,_,_=>none
 | c15+1,v11,v12,v13=>
   if (decide (v11 ≠ ([]:Str)))=true then
    (zbG v12 (19:Int)).bind fun x20=>
    (zaF n x20.2 v11).bind fun x23=>
    (za8 x23 (IntKind.i64.wrap (a1+(1:Int))) a2).bind fun x25=>
    if (a1 == (3:Int))=true then
     some (x25.2,({ x20.1 with za5:=v11,zas:=[v13,x25.1] }:zaa))
    else
     (zdO n x25.2 a1).bind fun x28=>
     zcv za8 n a1 a2 c15 x28 x25.2 ({ x20.1 with za5:=v11,zas:=[v13,x25.1] }:zaa)
   else
    some (v12,v13)
def zdC (za4:zab->Int->Option (zaa × zab)) (za8:zab->Int->Int->Option (zaa × zab)) (n:Nat) (a0:zab) (a1:Int) (a2:Int):Option (zaa × zab):=
 if (a1 == (7:Int))=true then
  (za4 a0 a2).bind fun x3=>
  some (x3.1,x3.2)
 else
  (za8 a0 (IntKind.i64.wrap (a1+(1:Int))) a2).bind fun x5=>
  (zdO n x5.2 a1).bind fun x8=>
  (zcv za8 n a1 a2 n x8 x5.2 x5.1).bind fun y14=>
  some (y14.2,y14.1)
def zdT:List Str:=[([126]:Str),([45]:Str)]
def zb6 (za4:zab->Int->Option (zaa × zab)) (n:Nat) (a1:Int):Nat->Int->zab->zaa->zaa->Option ((zab × zaa × zaa) ⊕ (zaa × zab))
 | 0,_,_,_,_=>none
 | c23+1,v18,v19,v20,v21=>
   if (decide (v18<(2:Int)))=true then
    (idxL zdT v18).bind fun x28=>
    (zaK n v19 x28).bind fun x37=>
    if x37.1=true then
     (za4 x37.2 (IntKind.i64.wrap (a1+(1:Int)))).bind fun x40=>
     some (.inr (({ v20 with za3:=(18:Int),za5:=x28,zas:=[x40.1] }:zaa),x40.2))
    else
     zb6 za4 n a1 c23 (IntKind.i64.wrap (v18+(1:Int))) x37.2 v20 v21
   else
    some (.inl (v19,v20,v21))
def zc6 (zbD:zab->Int->Option (zaa × zab)) (za4:zab->Int->Option (zaa × zab)) (zcz:zab->Int->Option ((List zaa) × zab)) (n:Nat) (a0:zab) (a1:Int):Option (zaa × zab):=
 (zdP a0 a1).bind fun x4=>
 (zaK n x4 ([40]:Str)).bind fun x6=>
 if x6.1=true then
  (zbD x6.2 (IntKind.i64.wrap (a1+(1:Int)))).bind fun x9=>
  (zaF n x9.2 ([41]:Str)).bind fun x12=>
  some (x9.1,x12)
 else
  (zbG x6.2 (15:Int)).bind fun x14=>
  (zb6 za4 n a1 n (0:Int) x14.2 x14.1 (zaa.mk (0:Int) (0:Int) [] (0:Int) [])).bind fun y22=>
  y22.elim (fun y22a=>
   (if (y22a.1.e_ == (0:Int))=true then
      (zbA y22a.1).bind fun x72=>
      some (x72.za3 == (2:Int))
     else
      some false).bind fun y70=>
   if y70=true then
    (zc7 y22a.1).bind fun x78=>
    some (({ y22a.2.1 with za3:=(14:Int),Num_:=x78.1 }:zaa),x78.2)
   else
    (zby n y22a.1).bind fun x80=>
    ((zcL n x80.2 ([40]:Str)).bind fun x83=>
      if x83=true then
       (zcz x80.2 a1).bind fun x86=>
       some (x86.2,({ y22a.2.1 with za3:=(17:Int),za5:=x80.1,zas:=x86.1 }:zaa))
      else
       (zaK n x80.2 ([91]:Str)).bind fun x88=>
       if x88.1=true then
        (zbD x88.2 (IntKind.i64.wrap (a1+(1:Int)))).bind fun x91=>
        (zaF n x91.2 ([93]:Str)).bind fun x93=>
        some (x93,({ y22a.2.1 with za3:=(16:Int),za5:=x80.1,zas:=[x91.1] }:zaa))
       else
        some (x88.2,({ y22a.2.1 with za5:=x80.1 }:zaa))).bind fun y82=>
    some (y82.2,y82.1)) (fun y22a=>
   some y22a)
def zcQ (zbD:zab->Int->Option (zaa × zab)) (n:Nat) (a0:zab) (a1:Int):Option (zaa × zab):=
 (zbD a0 (IntKind.i64.wrap (a1+(1:Int)))).bind fun x2=>
 some (x2.1,x2.2)
def zav:Nat->(zab->Int->Option ((List zaa) × zab)) × (zab->Int->Option (zaa × zab)) × (zab->Int->Int->Option (zaa × zab)) × (zab->Int->Option (zaa × zab)) × (zab->Int->Option (zaa × zab))
 | 0=>(fun _ _=>none,fun _ _=>none,fun _ _ _=>none,fun _ _=>none,fun _ _=>none)
 | n+1=>(zb9 (zav n).2.2.2.2 n,zd0 (zav n).2.2.1 n,zdC (zav n).2.2.2.1 (zav n).2.2.1 n,zc6 (zav n).2.1 (zav n).2.2.2.1 (zav n).1 n,zcQ (zav n).2.1 n)
def zgF (n:Nat):zab->Int->Option ((List zaa) × zab):=(zav n).1
def zbI (n:Nat):zab->Int->Option (zaa × zab):=(zav n).2.1
def zj3 (n:Nat):zab->Int->Int->Option (zaa × zab):=(zav n).2.2.1
def zi6 (n:Nat):zab->Int->Option (zaa × zab):=(zav n).2.2.2.1
def zib (n:Nat):zab->Int->Option (zaa × zab):=(zav n).2.2.2.2
def zdu (n:Nat) (a0:zab) (a1:zaa) (a2:Int):Option (zaa × zab):=
 (zby n a0).bind fun x3=>
 (zaF n x3.2 ([61]:Str)).bind fun x5=>
 (zbI n x5 a2).bind fun x7=>
 (zaF n x7.2 ([59]:Str)).bind fun x9=>
 some (({ a1 with za5:=x3.1,zas:=[x7.1] }:zaa),x9)
def zdB (n:Nat) (a0:zab) (a1:Int):Option (zaa × zab):=
 (zbI n a0 (IntKind.i64.wrap (a1+(2:Int)))).bind fun x2=>
 some (x2.1,x2.2)
def zbz (n:Nat) (a1:Int):Nat->(List zaa)->zab->Option ((List zaa) × zab)
 | 0,_,_=>none
 | c11+1,v8,v9=>
   if (v9.e_ == (0:Int))=true then
    (zdB n v9 a1).bind fun x16=>
    need (v8.length+[x16.1].length<=1073741824) <|
    (zaK n x16.2 ([44]:Str)).bind fun x21=>
    if (!x21.1)=true then
     some ((v8++[x16.1]),x21.2)
    else
     zbz n a1 c11 (v8++[x16.1]) x21.2
   else
    some (v8,v9)
def zcF (n:Nat) (a0:zab) (a1:Int):Option ((List zaa) × zab):=
 (zaF n a0 ([40]:Str)).bind fun x1=>
 (zaK n x1 ([41]:Str)).bind fun x3=>
 if x3.1=true then
  some ([],x3.2)
 else
  ((zbz n a1 n [] x3.2).bind fun y10=>
    some (y10.1,y10.2)).bind fun y6=>
  (zaF n y6.2 ([41]:Str)).bind fun x27=>
  some (y6.1,x27)
def zeg (n:Nat) (a0:zab) (a1:zaa) (a2:Int):Option (zaa × zab):=
 (zby n a0).bind fun x5=>
 ((zcL n x5.2 ([40]:Str)).bind fun x8=>
   if x8=true then
    (zcF n x5.2 a2).bind fun x11=>
    some (x11.2,({ a1 with za3:=(10:Int),za5:=x5.1,zas:=x11.1 }:zaa))
   else
    (zaK n x5.2 ([91]:Str)).bind fun x13=>
    if x13.1=true then
     (zbI n x13.2 (IntKind.i64.wrap (a2+(2:Int)))).bind fun x16=>
     (zaF n x16.2 ([93]:Str)).bind fun x18=>
     (zaF n x18 ([61]:Str)).bind fun x20=>
     (zbI n x20 (IntKind.i64.wrap (a2+(1:Int)))).bind fun x22=>
     need ([x16.1].length+[x22.1].length<=1073741824) <|
     some (x22.2,({ a1 with za3:=(9:Int),za5:=x5.1,zas:=([x16.1]++[x22.1]) }:zaa))
    else
     (zaF n x13.2 ([61]:Str)).bind fun x25=>
     (zbI n x25 (IntKind.i64.wrap (a2+(1:Int)))).bind fun x27=>
     some (x27.2,({ a1 with za5:=x5.1,zas:=[x27.1] }:zaa))).bind fun y7=>
 (zaF n y7.1 ([59]:Str)).bind fun x32=>
 some (y7.2,x32)
def zb2 (zbu:zab->Int->Option (zaa × zab)) (n:Nat) (a1:Int):Nat->zab->zaa->Option (zab × zaa)
 | 0,_,_=>none
 | c13+1,v10,v11=>
   (if (v10.e_ == (0:Int))=true then
      (zcL n v10 ([125]:Str)).bind fun x19=>
      some (!x19)
     else
      some false).bind fun y17=>
   if y17=true then
    (zbu v10 a1).bind fun x25=>
    need (v11.zas.length+[x25.1].length<=1073741824) <|
    zb2 zbu n a1 c13 x25.2 ({ v11 with zas:=(v11.zas++[x25.1]) }:zaa)
   else
    some (v10,v11)
def zdE (zbu:zab->Int->Option (zaa × zab)) (n:Nat) (a0:zab) (a1:Int):Option (zaa × zab):=
 (zdP a0 a1).bind fun x2=>
 (zbG x2 (4:Int)).bind fun x4=>
 (zaF n x4.2 ([123]:Str)).bind fun x7=>
 (zb2 zbu n a1 n x7 x4.1).bind fun y12=>
 (zaF n y12.1 ([125]:Str)).bind fun x32=>
 some (y12.2,x32)
def zcP (zdQ:zab->zaa->Int->Option (zaa × zab)) (zem:zab->zaa->Int->Option (zaa × zab)) (n:Nat) (a0:zab) (a1:Int):Option (zaa × zab):=
 (zbG a0 (8:Int)).bind fun x2=>
 ((zaK n x2.2 ([108,101,116]:Str)).bind fun x6=>
   if x6.1=true then
    (zdu n x6.2 ({ x2.1 with za3:=(5:Int) }:zaa) (IntKind.i64.wrap (a1+(1:Int)))).bind fun x9=>
    some (.inr (x9.1,x9.2))
   else
    (zaK n x6.2 ([118,97,114]:Str)).bind fun x11=>
    if x11.1=true then
     (zdu n x11.2 ({ x2.1 with za3:=(6:Int) }:zaa) (IntKind.i64.wrap (a1+(1:Int)))).bind fun x14=>
     some (.inr (x14.1,x14.2))
    else
     (zaK n x11.2 ([97,114,114]:Str)).bind fun x16=>
     if x16.1=true then
      (zby n x16.2).bind fun x19=>
      (zdN n x19.2).bind fun x21=>
      some (.inl (x21.2,({ x2.1 with za3:=(7:Int),za5:=x19.1,Num_:=x21.1 }:zaa)))
     else
      (zaK n x16.2 ([114,101,116,117,114,110]:Str)).bind fun x23=>
      if x23.1=true then
       (zbI n x23.2 (IntKind.i64.wrap (a1+(1:Int)))).bind fun x26=>
       some (.inl (x26.2,({ x2.1 with za3:=(13:Int),zas:=[x26.1] }:zaa)))
      else
       (zaK n x23.2 ([105,102]:Str)).bind fun x28=>
       if x28.1=true then
        (zdQ x28.2 x2.1 a1).bind fun x31=>
        some (.inr (x31.1,x31.2))
       else
        (zaK n x28.2 ([102,111,114]:Str)).bind fun x33=>
        if x33.1=true then
         (zem x33.2 x2.1 a1).bind fun x36=>
         some (.inr (x36.1,x36.2))
        else
         (zeg n x33.2 x2.1 a1).bind fun x38=>
         some (.inr (x38.1,x38.2)):Option ((zab × zaa) ⊕ (zaa × zab))).bind fun y5=>
 y5.elim (fun y5a=>
  (zaF n y5a.1 ([59]:Str)).bind fun x43=>
  some (y5a.2,x43)) (fun y5a=>
  some y5a)
def zdl (zbs:zab->Int->Option (zaa × zab)) (n:Nat) (a0:zab) (a1:zaa) (a2:Int):Option (zaa × zab):=
 (zbI n a0 (IntKind.i64.wrap (a2+(1:Int)))).bind fun x3=>
 (zbs x3.2 (IntKind.i64.wrap (a2+(1:Int)))).bind fun x5=>
 need ([x3.1].length+[x5.1].length<=1073741824) <|
 (zaK n x5.2 ([101,108,115,101]:Str)).bind fun x8=>
 if x8.1=true then
  (zbs x8.2 (IntKind.i64.wrap (a2+(1:Int)))).bind fun x11=>
  need (([x3.1]++[x5.1]).length+[x11.1].length<=1073741824) <|
  some (({ a1 with za3:=(11:Int),zas:=(([x3.1]++[x5.1])++[x11.1]) }:zaa),x11.2)
 else
  some (({ a1 with za3:=(11:Int),zas:=([x3.1]++[x5.1]) }:zaa),x8.2)
def zdZ (zbs:zab->Int->Option (zaa × zab)) (n:Nat) (a0:zab) (a1:zaa) (a2:Int):Option (zaa × zab):=
 (zby n a0).bind fun x3=>
 (zaF n x3.2 ([105,110]:Str)).bind fun x5=>
 (zbI n x5 (IntKind.i64.wrap (a2+(1:Int)))).bind fun x7=>
 (zaF n x7.2 ([46,46]:Str)).bind fun x9=>
 (zbI n x9 (IntKind.i64.wrap (a2+(1:Int)))).bind fun x11=>
 need ([x7.1].length+[x11.1].length<=1073741824) <|
 (zbs x11.2 (IntKind.i64.wrap (a2+(1:Int)))).bind fun x14=>
 need (([x7.1]++[x11.1]).length+[x14.1].length<=1073741824) <|
 some (({ a1 with za3:=(12:Int),za5:=x3.1,zas:=(([x7.1]++[x11.1])++[x14.1]) }:zaa),x14.2)
def zbe:Nat->(zab->Int->Option (zaa × zab)) × (zab->Int->Option (zaa × zab)) × (zab->zaa->Int->Option (zaa × zab)) × (zab->zaa->Int->Option (zaa × zab))
 | 0=>(fun _ _=>none,fun _ _=>none,fun _ _ _=>none,fun _ _ _=>none)
 | n+1=>(zdE (zbe n).2.1 n,zcP (zbe n).2.2.1 (zbe n).2.2.2 n,zdl (zbe n).1 n,zdZ (zbe n).1 n)
def zbB (n:Nat):zab->Int->Option (zaa × zab):=(zbe n).1
def zh9 (n:Nat):zab->Int->Option (zaa × zab):=(zbe n).2.1
def zjA (n:Nat):zab->zaa->Int->Option (zaa × zab):=(zbe n).2.2.1
def zkk (n:Nat):zab->zaa->Int->Option (zaa × zab):=(zbe n).2.2.2
def zdk (n:Nat) (a0:zab):Option (zaa × zab):=
 (zbG a0 (2:Int)).bind fun x2=>
 (zaK n x2.2 ([101,120,112,111,114,116]:Str)).bind fun x5=>
 if x5.1=true then
  (zaF n x5.2 ([102,110]:Str)).bind fun x8=>
  (zby n x8).bind fun x10=>
  (zbX n x10.2).bind fun x12=>
  (zaK n x12.2 ([45,62]:Str)).bind fun x14=>
  if x14.1=true then
   (zaK n x14.2 ([117,51,50]:Str)).bind fun x17=>
   if x17.1=true then
    (zbB n x17.2 (1:Int)).bind fun x20=>
    need (x12.1.length+[x20.1].length<=1073741824) <|
    some (({ x2.1 with za5:=x10.1,Num_:=(orK .u32 (1:Int) (2:Int)),zas:=(x12.1++[x20.1]) }:zaa),x20.2)
   else
    (zaF n x17.2 ([117,54,52]:Str)).bind fun x25=>
    (zbB n x25 (1:Int)).bind fun x27=>
    need (x12.1.length+[x27.1].length<=1073741824) <|
    some (({ x2.1 with za5:=x10.1,Num_:=(orK .u32 (1:Int) (4:Int)),zas:=(x12.1++[x27.1]) }:zaa),x27.2)
  else
   (zbB n x14.2 (1:Int)).bind fun x32=>
   need (x12.1.length+[x32.1].length<=1073741824) <|
   some (({ x2.1 with za5:=x10.1,Num_:=(1:Int),zas:=(x12.1++[x32.1]) }:zaa),x32.2)
 else
  (zaF n x5.2 ([102,110]:Str)).bind fun x37=>
  (zby n x37).bind fun x39=>
  (zbX n x39.2).bind fun x41=>
  (zaK n x41.2 ([45,62]:Str)).bind fun x43=>
  if x43.1=true then
   (zaK n x43.2 ([117,51,50]:Str)).bind fun x46=>
   if x46.1=true then
    (zbB n x46.2 (1:Int)).bind fun x49=>
    need (x41.1.length+[x49.1].length<=1073741824) <|
    some (({ x2.1 with za5:=x39.1,Num_:=(orK .u32 x2.1.Num_ (2:Int)),zas:=(x41.1++[x49.1]) }:zaa),x49.2)
   else
    (zaF n x46.2 ([117,54,52]:Str)).bind fun x54=>
    (zbB n x54 (1:Int)).bind fun x56=>
    need (x41.1.length+[x56.1].length<=1073741824) <|
    some (({ x2.1 with za5:=x39.1,Num_:=(orK .u32 x2.1.Num_ (4:Int)),zas:=(x41.1++[x56.1]) }:zaa),x56.2)
  else
   (zbB n x43.2 (1:Int)).bind fun x61=>
   need (x41.1.length+[x61.1].length<=1073741824) <|
   some (({ x2.1 with za5:=x39.1,zas:=(x41.1++[x61.1]) }:zaa),x61.2)
def zeq (n:Nat):Nat->zab->zaa->Option (zab × zaa)
 | 0,_,_=>none
 | c13+1,v10,v11=>
   (if (v10.e_ == (0:Int))=true then
      (zbA v10).bind fun x19=>
      some (x19.za3 != (4:Int))
     else
      some false).bind fun y17=>
   if y17=true then
    (zdk n v10).bind fun x25=>
    need (v11.zas.length+[x25.1].length<=1073741824) <|
    zeq n c13 x25.2 ({ v11 with zas:=(v11.zas++[x25.1]) }:zaa)
   else
    some (v10,v11)
def zhe (n:Nat) (a0:Str):Option (zaa × Int × Int):=
 (zit n a0).bind fun x2=>
 if (x2.2.1 != (0:Int))=true then
  some ((zaa.mk (0:Int) (0:Int) [] (0:Int) []),x2.2.1,x2.2.2)
 else
  (zbG (zab.mk x2.1 (0:Int) (0:Int) (0:Int) (0:Int)) (1:Int)).bind fun x6=>
  (zeq n n x6.2 x6.1).bind fun y12=>
  if (y12.1.e_ != (0:Int))=true then
   some ((zaa.mk (0:Int) (0:Int) [] (0:Int) []),y12.1.e_,y12.1.zj8)
  else
   some (y12.2,(0:Int),(0:Int))
def zgV (a0:zao) (a1:Str):Option Bool:=
 some (decide (a0.zco=a1))
def zaR (a0:(List zao)) (a1:Str):Nat->Int->Option (Unit ⊕ Int)
 | 0,_=>none
 | c4+1,v2=>
   if (decide (v2<(a0.length:Int)))=true then
    (idxL a0 v2).bind fun x9=>
    (zgV x9 a1).bind fun x10=>
    if x10=true then
     some (.inr v2)
    else
     zaR a0 a1 c4 (IntKind.i64.wrap (v2+(1:Int)))
   else
    some (.inl ())
def zbt (n:Nat) (a0:(List zao)) (a1:Str):Option Int:=
 (zaR a0 a1 n (0:Int)).bind fun y3=>
 y3.elim (fun y3a=>
  some (-1:Int)) (fun y3a=>
  some y3a)
def zee (n:Nat) (a0:zaz) (a1:Str):Option (Int × Bool):=
 (zbt n a0.zaB a1).bind fun x3=>
 some ((max x3 (0:Int)),(decide ((0:Int)<=x3)))
def zeQ (a0:zae) (a1:zag) (a2:Int) (a3:Int):Option zag:=
 if (a1.e_ == (0:Int))=true then
  some (zag.mk a2 a3)
 else
  some a1
def zap (a0:zae) (a1:zag) (a2:Bool) (a3:Int) (a4:Int):Option zag:=
 if (!a2)=true then
  (zeQ a0 a1 a3 a4).bind fun x2=>
  some x2
 else
  some a1
def zeJ (a0:Str):Nat->Int->Option (Unit ⊕ Int)
 | 0,_=>none
 | c4+1,v2=>
   if (decide (v2<(5:Int)))=true then
    (idxL za1 v2).bind fun x9=>
    if (decide (x9.zpZ=a0))=true then
     some (.inr x9.args_)
    else
     zeJ a0 c4 (IntKind.i64.wrap (v2+(1:Int)))
   else
    some (.inl ())
def zgu (n:Nat) (a0:Str):Option Int:=
 (zeJ a0 n (0:Int)).bind fun y3=>
 y3.elim (fun y3a=>
  some (0:Int)) (fun y3a=>
  some y3a)
def zgJ (a0:Int):Option Int:=
 if ((andK .u32 a0 (2:Int)) != (0:Int))=true then
  some (2:Int)
 else
  if ((andK .u32 a0 (4:Int)) != (0:Int))=true then
   some (3:Int)
  else
   some (0:Int)
def zck (n:Nat) (a2:zaa):Nat->Int->zae->zag->Option (zae × zag)
 | 0,_,_,_=>none
 | c9+1,v5,v6,v7=>
   if (decide (v5<(a2.zas.length:Int)))=true then
    (idxL a2.zas v5).bind fun x14=>
    (zee n v6.p_ x14.za5).bind fun x20=>
    (if (!x20.2)=true then
       (zgu n x14.za5).bind fun x25=>
       (zap v6 v7 (x25 == (0:Int)) (131:Int) x14.At_).bind fun x26=>
       some x26
      else
       (zap v6 v7 false (131:Int) x14.At_).bind fun x29=>
       some x29).bind fun y23=>
    (zgJ x14.Num_).bind fun x34=>
    need (v6.f_<0) <|
    need (v6.p_.zaB.length+1<=1073741824) <|
    zck n a2 c9 (IntKind.i64.wrap (v5+(1:Int))) ({ v6 with p_:=⟨(v6.p_.zaB++[(zao.mk x14.za5 ((andK .u32 x14.Num_ (1:Int)) != (0:Int)) x34 (0:Int) [] [])])⟩ }:zae) y23
   else
    some (v6,v7)
def zd2 (n:Nat) (a0:zae) (a1:zag) (a2:zaa):Option (zae × zag):=
 (zap a0 a1 (decide ((a2.zas.length:Int)<=(64:Int))) (136:Int) a2.At_).bind fun x2=>
 (zck n a2 n (0:Int) a0 x2).bind fun y8=>
 need ((0:Int)<=(a2.zas.length:Int)/\(a2.zas.length:Int)<=1073741824) <|
 some (({ y8.1 with za0:=(List.replicate a2.zas.length []) }:zae),y8.2)
def zbU (x1:zao):Nat->Int->zae->Option zae
 | 0,_,_=>none
 | c31+1,v28,v29=>
   if (decide (v28<x1.zaE))=true then
    need (v29.zaG.length+1<=1073741824) <|
    zbU x1 c31 (IntKind.i64.wrap (v28+(1:Int))) ({ v29 with zaG:=(v29.zaG++[v28]) }:zae)
   else
    some v29
def zda (n:Nat) (a0:zae) (a1:zag) (a2:Int):Option (zae × zag):=
 (idxL a0.p_.zaB a2).bind fun x1=>
 (zbU x1 n (0:Int) ({ a0 with f_:=a2,zaG:=[],at_:=a2 }:zae)).bind fun y30=>
 some (y30,a1)
def zgs (a0:Int):Option Bool:=
 (if (decide ((1:Int)<=a0))=true then
    if (decide (a0<=(255:Int)))=true then
     some true
    else
     if (decide ((255:Int)<a0))=true then
      if (decide (a0<=(1024:Int)))=true then
       some ((a0.tmod (4:Int)) == (0:Int))
      else
       some false
     else
      some false
   else
    if (decide ((255:Int)<a0))=true then
     if (decide (a0<=(1024:Int)))=true then
      some ((a0.tmod (4:Int)) == (0:Int))
     else
      some false
    else
     some false).bind fun y1=>
 some y1
def zcx (a0:zae) (a2:Str):Nat->Int->Option (Unit ⊕ Int)
 | 0,_=>none
 | c5+1,v3=>
   if (decide ((0:Int)<=v3))=true then
    (idxL a0.p_.zaB a0.f_).bind fun x10=>
    (idxL a0.zaG v3).bind fun x13=>
    (idxL x10.zaJ x13).bind fun x14=>
    if (decide (x14.zco=a2))=true then
     some (.inr x13)
    else
     zcx a0 a2 c5 (IntKind.i64.wrap (v3 - (1:Int)))
   else
    some (.inl ())
def zdv (n:Nat) (a0:zae) (a1:zag) (a2:Str):Option Int:=
 (zcx a0 a2 n (IntKind.i64.wrap ((a0.zaG.length:Int) - (1:Int)))).bind fun y4=>
 y4.elim (fun y4a=>
  some (-1:Int)) (fun y4a=>
  some y4a)
def zbq (n:Nat) (a0:zae) (a1:zag) (a2:zar) (a3:Int):Option (Int × zae × zag):=
 (zdv n a0 a1 a2.zco).bind fun x2=>
 (zap a0 a1 (decide (x2<(0:Int))) (131:Int) a3).bind fun x3=>
 (idxL a0.p_.zaB a0.f_).bind fun x6=>
 (zap a0 x3 (decide ((x6.zaJ.length:Int)<(250:Int))) (136:Int) a3).bind fun x9=>
 if (x9.e_ != (0:Int))=true then
  some ((-1:Int),a0,x9)
 else
  need (x6.zaJ.length+1<=1073741824) <|
  need (a0.zaG.length+1<=1073741824) <|
  some ((x6.zaJ.length:Int),({ a0 with p_:=⟨(a0.p_.zaB.set a0.f_.toNat { x6 with zaJ:=(x6.zaJ++[a2]) })⟩,zaG:=(a0.zaG++[(x6.zaJ.length:Int)]) }:zae),x9)
def zb7 (n:Nat) (a2:(List zaa)):Nat->Int->zae->zag->Option (zae × zag)
 | 0,_,_,_=>none
 | c6+1,v2,v3,v4=>
   if (decide (v2<(a2.length:Int)))=true then
    ((idxL a2 v2).bind fun x12=>
      (if ((IntKind.i64.wrap x12.Num_) == (4:Int))=true then
         some (decide ((0:Int)<(x12.zas.length:Int)))
        else
         some false).bind fun y19=>
      if y19=true then
       (idxL x12.zas (0:Int)).bind fun x25=>
       (zgs (IntKind.i64.wrap x25.Num_)).bind fun x31=>
       (zap v3 v4 x31 (136:Int) x12.At_).bind fun x32=>
       (zbq n v3 x32 (zar.mk x12.za5 (IntKind.i64.wrap x12.Num_) (IntKind.i64.wrap x25.Num_)) x12.At_).bind fun x35=>
       some (x35.2.1,x35.2.2)
      else
       (zbq n v3 v4 (zar.mk x12.za5 (IntKind.i64.wrap x12.Num_) (0:Int)) x12.At_).bind fun x37=>
       some (x37.2.1,x37.2.2)).bind fun y11=>
    zb7 n a2 c6 (IntKind.i64.wrap (v2+(1:Int))) y11.1 y11.2
   else
    some (v3,v4)
def zey (n:Nat) (a0:zae) (a1:zag) (a2:(List zaa)):Option (zae × zag):=
 (zb7 n a2 n (0:Int) a0 a1).bind fun y5=>
 (idxL y5.1.p_.zaB y5.1.f_).bind fun x61=>
 some (({ y5.1 with p_:=⟨(y5.1.p_.zaB.set y5.1.f_.toNat { x61 with zaE:=(x61.zaJ.length:Int) })⟩ }:zae),y5.2)
def zc1 (a0:zao):Nat->Int->Int->Option Int
 | 0,_,_=>none
 | c8+1,v5,v6=>
   if (decide (v6<((a0.zaJ.take a0.zaE.toNat).length:Int)))=true then
    ((idxL (a0.zaJ.take a0.zaE.toNat) v6).bind fun x14=>
      if (x14.za3 == (3:Int))=true then
       some (IntKind.i64.wrap ((IntKind.i64.wrap (v5+(IntKind.i64.wrap ((v5.tmod (2:Int))+(1:Int)))))+(1:Int)))
      else
       some (IntKind.i64.wrap (v5+(1:Int)))).bind fun y13=>
    zc1 a0 c8 y13 (IntKind.i64.wrap (v6+(1:Int)))
   else
    some v5
def zfd (n:Nat) (a0:zao):Option Int:=
 need ((0:Int)<=a0.zaE/\a0.zaE<=(a0.zaJ.length:Int)) <|
 (zc1 a0 n (0:Int) (0:Int)).bind fun y7=>
 some y7
def zcR (n:Nat) (a0:zae) (a1:zag) (a2:Int) (a3:zaa):Option (zae × zag):=
 (zda n a0 a1 a2).bind fun x2=>
 need ((0:Int)<=(max (IntKind.i64.wrap ((a3.zas.length:Int) - (1:Int))) (0:Int))/\(max (IntKind.i64.wrap ((a3.zas.length:Int) - (1:Int))) (0:Int))<=(a3.zas.length:Int)) <|
 (zey n x2.1 x2.2 (a3.zas.take (max (IntKind.i64.wrap ((a3.zas.length:Int) - (1:Int))) (0:Int)).toNat)).bind fun x4=>
 if (x4.2.e_ == (0:Int))=true then
  ((idxL x4.1.p_.zaB x4.1.f_).bind fun x10=>
    if (!x10.zbr)=true then
     (zap x4.1 x4.2 true (136:Int) a3.At_).bind fun x27=>
     some x27
    else
     (zfd n x10).bind fun x29=>
     (zap x4.1 x4.2 (decide (x29<=(4:Int))) (136:Int) a3.At_).bind fun x30=>
     some x30).bind fun y9=>
  some (x4.1,y9)
 else
  some (x4.1,x4.2)
def zbJ (a0:zae) (a1:zag) (a2:Int):Option Int:=
 if (decide (a2<(0:Int)))=true then
  some (0:Int)
 else
  (idxL a0.p_.zaB a0.f_).bind fun x2=>
  (idxL x2.zaJ a2).bind fun x5=>
  some x5.za3
def zcd (n:Nat) (a0:zae) (a1:zag) (a2:zaa):Option (Int × zag):=
 (zdv n a0 a1 a2.za5).bind fun x2=>
 (zap a0 a1 (decide ((0:Int)<=x2)) (130:Int) a2.At_).bind fun x4=>
 some (x2,x4)
def zfW (a0:Int) (a1:Int):Option Int:=
 (if (a0 == a1)=true then
    if (decide ((1:Int)<=a0))=true then
     some (decide (a0<=(3:Int)))
    else
     some false
   else
    some false).bind fun y1=>
 if y1=true then
  some a0
 else
  (if (a0 == (1:Int))=true then
     if (a1 == (2:Int))=true then
      some true
     else
      if (a0 == (2:Int))=true then
       some (a1 == (1:Int))
      else
       some false
    else
     if (a0 == (2:Int))=true then
      some (a1 == (1:Int))
     else
      some false).bind fun y8=>
  if y8=true then
   some (2:Int)
  else
   some (0:Int)
def zaY (a0:zae) (a1:zag) (a2:zaf) (a3:Int):Option (zaf × zag):=
 (zap a0 a1 (a3 != (0:Int)) (132:Int) a2.At_).bind fun x3=>
 some (({ a2 with zbg:=a3 }:zaf),x3)
def zcr (a0:zae) (a1:zag) (a2:zaf) (a3:zaf) (a4:zaf):Option (zaf × zag):=
 (zap a0 a1 (a4.zbg == (1:Int)) (133:Int) a4.At_).bind fun x5=>
 if (a3.zbg == (3:Int))=true then
  (if (decide (a4.Op_=([110,117,109]:Str)))=true then
     (zap a0 x5 (decide (a4.N_<=(63:Int))) (132:Int) a2.At_).bind fun x10=>
     some x10
    else
     (zap a0 x5 false (132:Int) a2.At_).bind fun x12=>
     some x12).bind fun y8=>
  (zaY a0 y8 a2 a3.zbg).bind fun x17=>
  some (x17.1,x17.2)
 else
  (zaY a0 x5 a2 a3.zbg).bind fun x19=>
  some (x19.1,x19.2)
def zfV (a0:Int):Option Int:=
 if (a0 == (1:Int))=true then
  some (2:Int)
 else
  some a0
def ze0 (a0:Int):Option Bool:=
 (if (a0 == (1:Int))=true then
    some true
   else
    some (a0 == (2:Int))).bind fun y1=>
 some y1
def zdM (a0:zae) (a1:zag) (a2:zaf):Option Int:=
 (idxL a2.zas (1:Int)).bind fun x2=>
 (idxL a2.zas (2:Int)).bind fun x3=>
 (zfW x2.zbg x3.zbg).bind fun x4=>
 ((idxL a2.zas (0:Int)).bind fun x17=>
   (ze0 x17.zbg).bind fun x18=>
   if (!x18)=true then
    some true
   else
    some (x4 == (0:Int))).bind fun y16=>
 if y16=true then
  some (0:Int)
 else
  (zfV x4).bind fun x30=>
  some x30
def zdK (zea:zae->zag->zaa->zaf->Option (zaf × zag)) (zdS:zae->zag->zaa->zaf->Option (zaf × zag)) (zdy:zae->zag->zaa->zaf->Option (zaf × zag)) (zdj:zae->zag->zaa->zaf->Option (zaf × zag)) (n:Nat) (a0:zae) (a1:zag) (a2:zaa):Option (zaf × zag):=
 if (a2.za3 == (14:Int))=true then
  some ((zaf.mk ([110,117,109]:Str) (1:Int) a2.Num_ (-1:Int) [] a2.At_),a1)
 else
  if (a2.za3 == (15:Int))=true then
   (zcd n a0 a1 a2).bind fun x6=>
   (zbJ a0 x6.2 x6.1).bind fun x8=>
   (zap a0 x6.2 (x8 != (4:Int)) (132:Int) a2.At_).bind fun x10=>
   some ((zaf.mk ([118,97,114]:Str) x8 (0:Int) x6.1 [] a2.At_),x10)
  else
   if (a2.za3 == (16:Int))=true then
    (zea a0 a1 a2 (zaf.mk [] (0:Int) (0:Int) (-1:Int) [] a2.At_)).bind fun x13=>
    some (x13.1,x13.2)
   else
    if (a2.za3 == (18:Int))=true then
     (zdS a0 a1 a2 (zaf.mk [] (0:Int) (0:Int) (-1:Int) [] a2.At_)).bind fun x16=>
     some (x16.1,x16.2)
    else
     if (a2.za3 == (19:Int))=true then
      (zdy a0 a1 a2 (zaf.mk [] (0:Int) (0:Int) (-1:Int) [] a2.At_)).bind fun x19=>
      some (x19.1,x19.2)
     else
      (zdj a0 a1 a2 (zaf.mk [] (0:Int) (0:Int) (-1:Int) [] a2.At_)).bind fun x21=>
      some (x21.1,x21.2)
def zdJ (zbd:zae->zag->zaa->Option (zaf × zag)) (n:Nat) (a0:zae) (a1:zag) (a2:zaa) (a3:zaf):Option (zaf × zag):=
 (idxL a2.zas (0:Int)).bind fun x4=>
 (zbd a0 a1 x4).bind fun x5=>
 (zcd n a0 x5.2 a2).bind fun x13=>
 (zbJ a0 x13.2 x13.1).bind fun x15=>
 (zap a0 x13.2 (x15 == (4:Int)) (132:Int) a2.At_).bind fun x16=>
 (zap a0 x16 (x5.1.zbg == (1:Int)) (133:Int) x5.1.At_).bind fun x19=>
 (if (x19.e_ == (0:Int))=true then
    some (decide (x5.1.Op_=([110,117,109]:Str)))
   else
    some false).bind fun y21=>
 if y21=true then
  (idxL a0.p_.zaB a0.f_).bind fun x27=>
  (idxL x27.zaJ x13.1).bind fun x30=>
  (zap a0 x19 (decide ((IntKind.i64.wrap x5.1.N_)<x30.zfQ)) (137:Int) x5.1.At_).bind fun x31=>
  some (({ a3 with Op_:=([105,110,100,101,120]:Str),zbg:=(2:Int),Var_:=x13.1,zas:=[x5.1] }:zaf),x31)
 else
  some (({ a3 with Op_:=([105,110,100,101,120]:Str),zbg:=(2:Int),Var_:=x13.1,zas:=[x5.1] }:zaf),x19)
def zdn (zbb:zae->zag->(List zaa)->Option ((List zaf) × zag)) (n:Nat) (a0:zae) (a1:zag) (a2:zaa) (a3:zaf):Option (zaf × zag):=
 (zbb a0 a1 a2.zas).bind fun x4=>
 if (decide (a2.za5=([45]:Str)))=true then
  (idxL x4.1 (0:Int)).bind fun x7=>
  some (({ a3 with Op_:=([110,101,103]:Str),zbg:=x7.zbg,zas:=x4.1 }:zaf),x4.2)
 else
  (idxL x4.1 (0:Int)).bind fun x13=>
  some (({ a3 with Op_:=([110,111,116]:Str),zbg:=x13.zbg,zas:=x4.1 }:zaf),x4.2)
def zdb (zbb:zae->zag->(List zaa)->Option ((List zaf) × zag)) (n:Nat) (a0:zae) (a1:zag) (a2:zaa) (a3:zaf):Option (zaf × zag):=
 (zbb a0 a1 a2.zas).bind fun x4=>
 (idxL x4.1 (0:Int)).bind fun x6=>
 (idxL x4.1 (1:Int)).bind fun x9=>
 (zfW x6.zbg x9.zbg).bind fun x20=>
 if (decide (a2.za5=([47]:Str)))=true then
  (zap a0 x4.2 (x6.zbg == (1:Int)) (133:Int) x6.At_).bind fun x23=>
  (zap a0 x23 (x9.zbg == (1:Int)) (133:Int) x9.At_).bind fun x25=>
  (zaY a0 x25 ({ a3 with Op_:=a2.za5,zas:=x4.1 }:zaf) (1:Int)).bind fun x27=>
  some (x27.1,x27.2)
 else
  if (decide (a2.za5=([37]:Str)))=true then
   (zap a0 x4.2 (x6.zbg == (1:Int)) (133:Int) x6.At_).bind fun x30=>
   (zap a0 x30 (x9.zbg == (1:Int)) (133:Int) x9.At_).bind fun x32=>
   (zaY a0 x32 ({ a3 with Op_:=a2.za5,zas:=x4.1 }:zaf) (1:Int)).bind fun x34=>
   some (x34.1,x34.2)
  else
   if (decide (a2.za5=([60,60]:Str)))=true then
    (zcr a0 x4.2 ({ a3 with Op_:=a2.za5,zas:=x4.1 }:zaf) x6 x9).bind fun x37=>
    some (x37.1,x37.2)
   else
    if (decide (a2.za5=([62,62]:Str)))=true then
     (zcr a0 x4.2 ({ a3 with Op_:=a2.za5,zas:=x4.1 }:zaf) x6 x9).bind fun x40=>
     some (x40.1,x40.2)
    else
     if (decide (a2.za5=([60,60,60]:Str)))=true then
      (zcr a0 x4.2 ({ a3 with Op_:=a2.za5,zas:=x4.1 }:zaf) x6 x9).bind fun x43=>
      some (x43.1,x43.2)
     else
      if (decide (a2.za5=([42]:Str)))=true then
       (zap a0 x4.2 (x20 != (3:Int)) (132:Int) a2.At_).bind fun x46=>
       (zaY a0 x46 ({ a3 with Op_:=a2.za5,zas:=x4.1 }:zaf) x20).bind fun x48=>
       some (x48.1,x48.2)
      else
       if (decide (a2.za5=([61,61]:Str)))=true then
        if (x20 == (3:Int))=true then
         (zaY a0 x4.2 ({ a3 with Op_:=a2.za5,zas:=x4.1 }:zaf) (2:Int)).bind fun x52=>
         some (x52.1,x52.2)
        else
         (zaY a0 x4.2 ({ a3 with Op_:=a2.za5,zas:=x4.1 }:zaf) x20).bind fun x54=>
         some (x54.1,x54.2)
       else
        if (decide (a2.za5=([60]:Str)))=true then
         if (x20 == (3:Int))=true then
          (zaY a0 x4.2 ({ a3 with Op_:=a2.za5,zas:=x4.1 }:zaf) (2:Int)).bind fun x58=>
          some (x58.1,x58.2)
         else
          (zaY a0 x4.2 ({ a3 with Op_:=a2.za5,zas:=x4.1 }:zaf) x20).bind fun x60=>
          some (x60.1,x60.2)
        else
         (zaY a0 x4.2 ({ a3 with Op_:=a2.za5,zas:=x4.1 }:zaf) x20).bind fun x62=>
         some (x62.1,x62.2)
def zcW (zbb:zae->zag->(List zaa)->Option ((List zaf) × zag)) (n:Nat) (a0:zae) (a1:zag) (a2:zaa) (a3:zaf):Option (zaf × zag):=
 (zgu n a2.za5).bind fun x4=>
 (zap a0 a1 (decide ((0:Int)<x4)) (130:Int) a2.At_).bind fun x6=>
 (zap a0 x6 ((a2.zas.length:Int) == x4) (136:Int) a2.At_).bind fun x8=>
 (zbb a0 x8 a2.zas).bind fun x10=>
 if (x10.2.e_ != (0:Int))=true then
  some (({ a3 with Op_:=a2.za5,zas:=x10.1 }:zaf),x10.2)
 else
  (idxL x10.1 (0:Int)).bind fun x13=>
  if (decide (a2.za5=([115,101,108,101,99,116]:Str)))=true then
   (zdM a0 x10.2 ({ a3 with Op_:=a2.za5,zas:=x10.1 }:zaf)).bind fun x20=>
   (zaY a0 x10.2 ({ a3 with Op_:=a2.za5,zas:=x10.1 }:zaf) x20).bind fun x21=>
   some (x21.1,x21.2)
  else
   if (decide (a2.za5=([108,111,110,103]:Str)))=true then
    (ze0 x13.zbg).bind fun x25=>
    (zap a0 x10.2 x25 (132:Int) a2.At_).bind fun x26=>
    (zaY a0 x26 ({ a3 with Op_:=a2.za5,zas:=x10.1 }:zaf) (3:Int)).bind fun x29=>
    some (x29.1,x29.2)
   else
    if (decide (a2.za5=([119,105,100,101]:Str)))=true then
     ((ze0 x13.zbg).bind fun x33=>
       if x33=true then
        (idxL x10.1 (1:Int)).bind fun x36=>
        (ze0 x36.zbg).bind fun x37=>
        (zap a0 x10.2 x37 (132:Int) a2.At_).bind fun x38=>
        some x38
       else
        (zap a0 x10.2 false (132:Int) a2.At_).bind fun x46=>
        some x46).bind fun y32=>
     (zaY a0 y32 ({ a3 with Op_:=a2.za5,zas:=x10.1 }:zaf) (3:Int)).bind fun x51=>
     some (x51.1,x51.2)
    else
     (zap a0 x10.2 (x13.zbg == (3:Int)) (132:Int) a2.At_).bind fun x53=>
     (zaY a0 x53 ({ a3 with Op_:=a2.za5,zas:=x10.1 }:zaf) (2:Int)).bind fun x55=>
     some (x55.1,x55.2)
def zcE (zbd:zae->zag->zaa->Option (zaf × zag)) (a2:(List zaa)) (a0:zae):Nat->(List zaf)->Int->zag->Option ((List zaf) × zag)
 | 0,_,_,_=>none
 | c6+1,v2,v3,v4=>
   if (decide (v3<(a2.length:Int)))=true then
    (idxL a2 v3).bind fun x11=>
    (zbd a0 v4 x11).bind fun x17=>
    need (v2.length+[x17.1].length<=1073741824) <|
    zcE zbd a2 a0 c6 (v2++[x17.1]) (IntKind.i64.wrap (v3+(1:Int))) x17.2
   else
    some (v2,v4)
def zd6 (zbd:zae->zag->zaa->Option (zaf × zag)) (n:Nat) (a0:zae) (a1:zag) (a2:(List zaa)):Option ((List zaf) × zag):=
 (zcE zbd a2 a0 n [] (0:Int) a1).bind fun y5=>
 some (y5.1,y5.2)
def zaP:Nat->(zae->zag->zaa->Option (zaf × zag)) × (zae->zag->zaa->zaf->Option (zaf × zag)) × (zae->zag->zaa->zaf->Option (zaf × zag)) × (zae->zag->zaa->zaf->Option (zaf × zag)) × (zae->zag->zaa->zaf->Option (zaf × zag)) × (zae->zag->(List zaa)->Option ((List zaf) × zag))
 | 0=>(fun _ _ _=>none,fun _ _ _ _=>none,fun _ _ _ _=>none,fun _ _ _ _=>none,fun _ _ _ _=>none,fun _ _ _=>none)
 | n+1=>(zdK (zaP n).2.1 (zaP n).2.2.1 (zaP n).2.2.2.1 (zaP n).2.2.2.2.1 n,zdJ (zaP n).1 n,zdn (zaP n).2.2.2.2.2 n,zdb (zaP n).2.2.2.2.2 n,zcW (zaP n).2.2.2.2.2 n,zd6 (zaP n).1 n)
def zce (n:Nat):zae->zag->zaa->Option (zaf × zag):=(zaP n).1
def zj5 (n:Nat):zae->zag->zaa->zaf->Option (zaf × zag):=(zaP n).2.1
def zjB (n:Nat):zae->zag->zaa->zaf->Option (zaf × zag):=(zaP n).2.2.1
def zji (n:Nat):zae->zag->zaa->zaf->Option (zaf × zag):=(zaP n).2.2.2.1
def ziN (n:Nat):zae->zag->zaa->zaf->Option (zaf × zag):=(zaP n).2.2.2.2.1
def zkm (n:Nat):zae->zag->(List zaa)->Option ((List zaf) × zag):=(zaP n).2.2.2.2.2
def zbF (n:Nat) (a0:zae) (a1:zag) (a2:zaa):Option (zaf × zag):=
 (zce n a0 a1 a2).bind fun x3=>
 (zap a0 x3.2 (x3.1.zbg == (1:Int)) (133:Int) a2.At_).bind fun x6=>
 some (x3.1,x6)
def zc9 (n:Nat) (a0:zae) (a1:zag) (a2:zaa):Option (Int × zag):=
 (zee n a0.p_ a2.za5).bind fun x2=>
 (zap a0 a1 x2.2 (130:Int) a2.At_).bind fun x5=>
 some (x2.1,x5)
def zdH (a0:zae) (a1:zag) (a2:Int):Option (List zar):=
 (idxL a0.p_.zaB a2).bind fun x1=>
 need ((0:Int)<=x1.zaE/\x1.zaE<=(x1.zaJ.length:Int)) <|
 some (x1.zaJ.take (x1.zaE.toNat))
def zfX (a0:Int) (a1:Int):Option Bool:=
 (if (a0 == a1)=true then
    some true
   else
    if (a0 == (1:Int))=true then
     some (a1 == (2:Int))
    else
     some false).bind fun y1=>
 some y1
def zd5 (n:Nat) (a0:zae) (a1:zag) (a2:zaa) (a3:Int):Option (zaf × zag):=
 (zap a0 a1 (a2.za3 == (15:Int)) (132:Int) a2.At_).bind fun x3=>
 (zcd n a0 x3 a2).bind fun x5=>
 ((zbJ a0 x5.2 x5.1).bind fun x8=>
   if (x8 == (4:Int))=true then
    (idxL a0.p_.zaB a0.f_).bind fun x11=>
    (idxL x11.zaJ (max x5.1 (0:Int))).bind fun x14=>
    (zap a0 x5.2 (x14.zfQ == a3) (132:Int) a2.At_).bind fun x15=>
    some x15
   else
    (zap a0 x5.2 false (132:Int) a2.At_).bind fun x40=>
    some x40).bind fun y7=>
 some ((zaf.mk ([118,97,114]:Str) (4:Int) (0:Int) x5.1 [] a2.At_),y7)
def zdc (n:Nat) (a0:zae) (a1:zag) (a2:zaa) (a3:zar):Option (zaf × zag):=
 if (a3.za3 == (4:Int))=true then
  (zd5 n a0 a1 a2 a3.zfQ).bind fun x5=>
  some (x5.1,x5.2)
 else
  if (a3.za3 == (1:Int))=true then
   (zbF n a0 a1 a2).bind fun x8=>
   some (x8.1,x8.2)
  else
   (zce n a0 a1 a2).bind fun x10=>
   (zfX x10.1.zbg a3.za3).bind fun x13=>
   (zap a0 x10.2 x13 (132:Int) a2.At_).bind fun x14=>
   some (x10.1,x14)
def zcy (n:Nat) (a2:zaa) (x20:(List zar)) (a0:zae) (x7:(List Int)) (x4:(Int × zag)):Nat->Int->zag->zac->Option (zag × zac)
 | 0,_,_,_=>none
 | c29+1,v25,v26,v27=>
   if (decide (v25<(a2.zas.length:Int)))=true then
    (idxL a2.zas v25).bind fun x34=>
    if (v26.e_ != (0:Int))=true then
     some (v26,v27)
    else
     (idxL x20 v25).bind fun x41=>
     (zdc n ({ a0 with za0:=(a0.za0.set a0.at_.toNat (x7++[x4.1])) }:zae) v26 x34 x41).bind fun x42=>
     need (v27.zas.length+[x42.1].length<=1073741824) <|
     zcy n a2 x20 a0 x7 x4 c29 (IntKind.i64.wrap (v25+(1:Int))) x42.2 ({ v27 with zas:=(v27.zas++[x42.1]) }:zac)
   else
    some (v26,v27)
def zcB (n:Nat) (a0:zae) (a1:zag) (a2:zaa) (a3:zac) (a4:Int):Option (zac × zae × zag):=
 (zc9 n a0 a1 a2).bind fun x4=>
 if (x4.2.e_ != (0:Int))=true then
  some (({ a3 with Op_:=([99,97,108,108]:Str),Var_:=a4,zeD:=x4.1,zas:=[] }:zac),a0,x4.2)
 else
  (idxL a0.za0 a0.at_).bind fun x7=>
  need (x7.length+1<=1073741824) <|
  (zdH ({ a0 with za0:=(a0.za0.set a0.at_.toNat (x7++[x4.1])) }:zae) x4.2 x4.1).bind fun x20=>
  (zap ({ a0 with za0:=(a0.za0.set a0.at_.toNat (x7++[x4.1])) }:zae) x4.2 ((a2.zas.length:Int) == (x20.length:Int)) (136:Int) a2.At_).bind fun x22=>
  (zcy n a2 x20 a0 x7 x4 n (0:Int) x22 ({ a3 with Op_:=([99,97,108,108]:Str),Var_:=a4,zeD:=x4.1,zas:=[] }:zac)).bind fun y28=>
  some (y28.2,({ a0 with za0:=(a0.za0.set a0.at_.toNat (x7++[x4.1])) }:zae),y28.1)
def zcD (n:Nat) (a0:zae) (a1:zag) (a2:zaa):Option Bool:=
 (if (a2.za3 == (17:Int))=true then
    (zgu n a2.za5).bind fun x4=>
    some (x4 == (0:Int))
   else
    some false).bind fun y2=>
 some y2
def zd4 (n:Nat) (a0:zae) (a1:zag) (a2:zaa) (a3:zac):Option (zac × zae × zag):=
 (idxL a2.zas (0:Int)).bind fun x4=>
 (zcD n a0 a1 x4).bind fun x5=>
 if x5=true then
  (zcB n a0 a1 x4 ({ a3 with zas:=[] }:zac) (-1:Int)).bind fun x13=>
  if (x13.2.2.e_ != (0:Int))=true then
   some (({ x13.1 with At_:=a2.At_ }:zac),x13.2.1,x13.2.2)
  else
   (idxL x13.2.1.p_.zaB x13.1.zeD).bind fun x16=>
   (zap x13.2.1 x13.2.2 (x16.zaX != (0:Int)) (132:Int) a2.At_).bind fun x30=>
   (zbq n x13.2.1 x30 (zar.mk a2.za5 x16.zaX (0:Int)) a2.At_).bind fun x32=>
   some (({ x13.1 with Var_:=x32.1,At_:=a2.At_ }:zac),x32.2.1,x32.2.2)
 else
  (zce n a0 a1 x4).bind fun x34=>
  (zfV x34.1.zbg).bind fun x37=>
  (zbq n a0 x34.2 (zar.mk a2.za5 x37 (0:Int)) a2.At_).bind fun x38=>
  some (({ a3 with Op_:=([118,97,114]:Str),Var_:=x38.1,zas:=[x34.1] }:zac),x38.2.1,x38.2.2)
def zdp (n:Nat) (a0:zae) (a1:zag) (a2:zaa):Option (Int × zag):=
 (zcd n a0 a1 a2).bind fun x2=>
 (zbJ a0 x2.2 x2.1).bind fun x4=>
 (if (x4 == (2:Int))=true then
    (zap a0 x2.2 true (132:Int) a2.At_).bind fun x8=>
    some x8
   else
    (zap a0 x2.2 (x4 == (3:Int)) (132:Int) a2.At_).bind fun x10=>
    some x10).bind fun y6=>
 some (x2.1,y6)
def zeu (n:Nat) (a0:zae) (a1:zag) (a2:zaa) (a3:zac):Option (zac × zae × zag):=
 (zdp n a0 a1 a2).bind fun x4=>
 (idxL a2.zas (0:Int)).bind fun x6=>
 (zcD n a0 x4.2 x6).bind fun x7=>
 if x7=true then
  (zcB n a0 x4.2 x6 ({ a3 with zas:=[] }:zac) x4.1).bind fun x15=>
  if (x15.2.2.e_ == (0:Int))=true then
   (zbJ x15.2.1 x15.2.2 x4.1).bind fun x18=>
   (idxL x15.2.1.p_.zaB x15.1.zeD).bind fun x19=>
   (zap x15.2.1 x15.2.2 (x19.zaX == x18) (132:Int) a2.At_).bind fun x21=>
   some (({ x15.1 with At_:=a2.At_ }:zac),x15.2.1,x21)
  else
   some (({ x15.1 with At_:=a2.At_ }:zac),x15.2.1,x15.2.2)
 else
  (zce n a0 x4.2 x6).bind fun x36=>
  (zbJ a0 x36.2 x4.1).bind fun x39=>
  (zfX x36.1.zbg x39).bind fun x40=>
  (zap a0 x36.2 x40 (132:Int) a2.At_).bind fun x41=>
  some (({ a3 with Op_:=([115,101,116]:Str),Var_:=x4.1,zas:=[x36.1] }:zac),a0,x41)
def zd3 (n:Nat) (a0:zae) (a1:zag) (a2:zaa) (a3:Int):Option (zaf × zag):=
 (zbF n a0 a1 a2).bind fun x3=>
 (if (x3.2.e_ == (0:Int))=true then
    some (decide (x3.1.Op_=([110,117,109]:Str)))
   else
    some false).bind fun y6=>
 if y6=true then
  (idxL a0.p_.zaB a0.f_).bind fun x12=>
  (idxL x12.zaJ a3).bind fun x15=>
  (zap a0 x3.2 (decide ((IntKind.i64.wrap x3.1.N_)<x15.zfQ)) (137:Int) a2.At_).bind fun x16=>
  some (x3.1,x16)
 else
  some (x3.1,x3.2)
def zev (n:Nat) (a0:zae) (a1:zag) (a2:zaa) (a3:zac):Option (zac × zag):=
 (zcd n a0 a1 a2).bind fun x4=>
 (zbJ a0 x4.2 x4.1).bind fun x6=>
 (zap a0 x4.2 (x6 == (4:Int)) (132:Int) a2.At_).bind fun x7=>
 (idxL a2.zas (0:Int)).bind fun x10=>
 (zd3 n a0 x7 x10 x4.1).bind fun x11=>
 (idxL a2.zas (1:Int)).bind fun x19=>
 (zce n a0 x11.2 x19).bind fun x20=>
 (zfX x20.1.zbg (2:Int)).bind fun x28=>
 (zap a0 x20.2 x28 (132:Int) a2.At_).bind fun x29=>
 some (({ a3 with Op_:=([112,117,116]:Str),Var_:=x4.1,zas:=[x11.1,x20.1] }:zac),x29)
def zek (n:Nat) (a0:zae) (a1:zag) (a2:zaa) (a3:zac) (a4:Bool):Option (zac × zae × zag):=
 (if a4=true then
    (idxL a0.p_.zaB a0.f_).bind fun x6=>
    (zap a0 a1 (x6.zaX != (0:Int)) (135:Int) a2.At_).bind fun x9=>
    some x9
   else
    (zap a0 a1 false (135:Int) a2.At_).bind fun x24=>
    some x24).bind fun y4=>
 (if (y4.e_ == (0:Int))=true then
    (idxL a2.zas (0:Int)).bind fun x31=>
    (zcD n a0 y4 x31).bind fun x32=>
    some x32
   else
    some false).bind fun y29=>
 if y29=true then
  (idxL a2.zas (0:Int)).bind fun x43=>
  (zcB n a0 y4 x43 ({ a3 with zas:=[] }:zac) (-2:Int)).bind fun x44=>
  if (x44.2.2.e_ == (0:Int))=true then
   (idxL x44.2.1.p_.zaB x44.1.zeD).bind fun x52=>
   (idxL x44.2.1.p_.zaB x44.2.1.f_).bind fun x54=>
   (zap x44.2.1 x44.2.2 (x52.zaX == x54.zaX) (132:Int) a2.At_).bind fun x57=>
   some (({ x44.1 with At_:=a2.At_ }:zac),x44.2.1,x57)
  else
   some (({ x44.1 with At_:=a2.At_ }:zac),x44.2.1,x44.2.2)
 else
  (idxL a2.zas (0:Int)).bind fun x83=>
  (zce n a0 y4 x83).bind fun x84=>
  (idxL a0.p_.zaB a0.f_).bind fun x92=>
  (zfX x84.1.zbg x92.zaX).bind fun x95=>
  (zap a0 x84.2 x95 (132:Int) a2.At_).bind fun x96=>
  some (({ a3 with Op_:=([114,101,116,117,114,110]:Str),zas:=[x84.1] }:zac),a0,x96)
def zcl (zbi:zae->zag->zaa->Bool->Option (zac × zae × zag)) (a2:zaa) (a3:Bool):Nat->(List zac)->Int->zae->zag->Option ((List zac) × zae × zag)
 | 0,_,_,_,_=>none
 | c9+1,v4,v5,v6,v7=>
   if (decide (v5<(a2.zas.length:Int)))=true then
    (idxL a2.zas v5).bind fun x14=>
    if (v7.e_ != (0:Int))=true then
     some (v4,v6,v7)
    else
     (if a3=true then
        (zbi v6 v7 x14 (v5 == (IntKind.i64.wrap ((a2.zas.length:Int) - (1:Int))))).bind fun x28=>
        need (v4.length+[x28.1].length<=1073741824) <|
        some ((v4++[x28.1]),x28.2.1,x28.2.2)
       else
        (zbi v6 v7 x14 false).bind fun x33=>
        need (v4.length+[x33.1].length<=1073741824) <|
        some ((v4++[x33.1]),x33.2.1,x33.2.2)).bind fun y26=>
     zcl zbi a2 a3 c9 y26.1 (IntKind.i64.wrap (v5+(1:Int))) y26.2.1 y26.2.2
   else
    some (v4,v6,v7)
def zdq (zbi:zae->zag->zaa->Bool->Option (zac × zae × zag)) (n:Nat) (a0:zae) (a1:zag) (a2:zaa) (a3:Bool):Option ((List zac) × zae × zag):=
 (zcl zbi a2 a3 n [] (0:Int) a0 a1).bind fun y8=>
 need ((0:Int)<=(a0.zaG.length:Int)/\(a0.zaG.length:Int)<=(y8.2.1.zaG.length:Int)) <|
 some (y8.1,({ y8.2.1 with zaG:=(y8.2.1.zaG.take (a0.zaG.length)) }:zae),y8.2.2)
def zbw (za2:zae->zag->zaa->Bool->Option ((List zac) × zae × zag)) (a2:zaa):Nat->Int->zae->zag->zac->Option (zae × zag × zac)
 | 0,_,_,_,_=>none
 | c59+1,v54,v55,v56,v57=>
   if (decide (v54<((a2.zas.drop 2).length:Int)))=true then
    (idxL (a2.zas.drop 2) v54).bind fun x64=>
    (za2 v55 v56 x64 false).bind fun x70=>
    zbw za2 a2 c59 (IntKind.i64.wrap (v54+(1:Int))) x70.2.1 x70.2.2 ({ v57 with zeO:=x70.1 }:zac)
   else
    some (v55,v56,v57)
def zcI (za2:zae->zag->zaa->Bool->Option ((List zac) × zae × zag)) (zd9:zae->zag->zaa->zac->Option (zac × zae × zag)) (n:Nat) (a0:zae) (a1:zag) (a2:zaa) (a3:Bool):Option (zac × zae × zag):=
 if (a2.za3 == (5:Int))=true then
  (idxL a2.zas (0:Int)).bind fun x5=>
  (zbF n a0 a1 x5).bind fun x6=>
  (zbq n a0 x6.2 (zar.mk a2.za5 (1:Int) (0:Int)) a2.At_).bind fun x13=>
  some ((zac.mk ([108,101,116]:Str) x13.1 (0:Int) [x6.1] [] [] a2.At_),x13.2.1,x13.2.2)
 else
  if (a2.za3 == (6:Int))=true then
   (zd4 n a0 a1 a2 (zac.mk [] (-1:Int) (0:Int) [] [] [] a2.At_)).bind fun x16=>
   some (x16.1,x16.2.1,x16.2.2)
  else
   if (a2.za3 == (7:Int))=true then
    (zgs (IntKind.i64.wrap (min a2.Num_ (1025:Int)))).bind fun x19=>
    (zap a0 a1 x19 (136:Int) a2.At_).bind fun x20=>
    (zbq n a0 x20 (zar.mk a2.za5 (4:Int) (IntKind.i64.wrap a2.Num_)) a2.At_).bind fun x23=>
    some ((zac.mk ([97,114,114]:Str) x23.1 (0:Int) [] [] [] a2.At_),x23.2.1,x23.2.2)
   else
    if (a2.za3 == (8:Int))=true then
     (zeu n a0 a1 a2 (zac.mk [] (-1:Int) (0:Int) [] [] [] a2.At_)).bind fun x26=>
     some (x26.1,x26.2.1,x26.2.2)
    else
     if (a2.za3 == (9:Int))=true then
      (zev n a0 a1 a2 (zac.mk [] (-1:Int) (0:Int) [] [] [] a2.At_)).bind fun x29=>
      some (x29.1,a0,x29.2)
     else
      if (a2.za3 == (10:Int))=true then
       (zcB n a0 a1 a2 (zac.mk [] (-1:Int) (0:Int) [] [] [] a2.At_) (-1:Int)).bind fun x32=>
       some (x32.1,x32.2.1,x32.2.2)
      else
       if (a2.za3 == (11:Int))=true then
        (idxL a2.zas (0:Int)).bind fun x35=>
        (zbF n a0 a1 x35).bind fun x36=>
        (idxL a2.zas (1:Int)).bind fun x43=>
        (za2 a0 x36.2 x43 false).bind fun x44=>
        need ((0:Int)<=(2:Int)/\(2:Int)<=(a2.zas.length:Int)) <|
        (zbw za2 a2 n (0:Int) x44.2.1 x44.2.2 (zac.mk ([105,102]:Str) (-1:Int) (0:Int) [x36.1] x44.1 [] a2.At_)).bind fun y58=>
        some (y58.2.2,y58.1,y58.2.1)
       else
        if (a2.za3 == (12:Int))=true then
         (zd9 a0 a1 a2 (zac.mk [] (-1:Int) (0:Int) [] [] [] a2.At_)).bind fun x73=>
         some (x73.1,x73.2.1,x73.2.2)
        else
         if (a2.za3 == (13:Int))=true then
          (zek n a0 a1 a2 (zac.mk [] (-1:Int) (0:Int) [] [] [] a2.At_) a3).bind fun x76=>
          some (x76.1,x76.2.1,x76.2.2)
         else
          some ((zac.mk [] (-1:Int) (0:Int) [] [] [] a2.At_),a0,a1)
def zdI (za2:zae->zag->zaa->Bool->Option ((List zac) × zae × zag)) (n:Nat) (a0:zae) (a1:zag) (a2:zaa) (a3:zac):Option (zac × zae × zag):=
 (idxL a2.zas (0:Int)).bind fun x4=>
 (zbF n a0 a1 x4).bind fun x5=>
 (idxL a2.zas (1:Int)).bind fun x6=>
 (zbF n a0 x5.2 x6).bind fun x7=>
 (zbq n a0 x7.2 (zar.mk a2.za5 (1:Int) (0:Int)) a2.At_).bind fun x21=>
 (idxL a2.zas (2:Int)).bind fun x23=>
 (za2 x21.2.1 x21.2.2 x23 false).bind fun x24=>
 need ((0:Int)<=(min (a0.zaG.length:Int) (x24.2.1.zaG.length:Int))/\(min (a0.zaG.length:Int) (x24.2.1.zaG.length:Int))<=(x24.2.1.zaG.length:Int)) <|
 some (({ a3 with Op_:=([102,111,114]:Str),Var_:=x21.1,zas:=[x5.1,x7.1],zba:=x24.1 }:zac),({ x24.2.1 with zaG:=(x24.2.1.zaG.take ((min (a0.zaG.length:Int) (x24.2.1.zaG.length:Int)).toNat)) }:zae),x24.2.2)
def zbo:Nat->(zae->zag->zaa->Bool->Option ((List zac) × zae × zag)) × (zae->zag->zaa->Bool->Option (zac × zae × zag)) × (zae->zag->zaa->zac->Option (zac × zae × zag))
 | 0=>(fun _ _ _ _=>none,fun _ _ _ _=>none,fun _ _ _ _=>none)
 | n+1=>(zdq (zbo n).2.1 n,zcI (zbo n).1 (zbo n).2.2 n,zdI (zbo n).1 n)
def zfs (n:Nat):zae->zag->zaa->Bool->Option ((List zac) × zae × zag):=(zbo n).1
def zhU (n:Nat):zae->zag->zaa->Bool->Option (zac × zae × zag):=(zbo n).2.1
def zj4 (n:Nat):zae->zag->zaa->zac->Option (zac × zae × zag):=(zbo n).2.2
def zf9 (a0:zaa):Option Bool:=
 (if (decide ((0:Int)<(a0.zas.length:Int)))=true then
    (idxL a0.zas (IntKind.i64.wrap ((a0.zas.length:Int) - (1:Int)))).bind fun x4=>
    some (x4.za3 == (13:Int))
   else
    some false).bind fun y2=>
 some y2
def zb4 (n:Nat) (a3:zaa):Nat->Int->zae->zag->Option (zae × zag)
 | 0,_,_,_=>none
 | c11+1,v7,v8,v9=>
   if (decide (v7<((a3.zas.drop (max (IntKind.i64.wrap ((a3.zas.length:Int) - (1:Int))) (0:Int)).toNat).length:Int)))=true then
    (idxL (a3.zas.drop (max (IntKind.i64.wrap ((a3.zas.length:Int) - (1:Int))) (0:Int)).toNat) v7).bind fun x16=>
    (idxL v8.p_.zaB v8.f_).bind fun x22=>
    (zfs n v8 v9 x16 true).bind fun x25=>
    (idxL x25.2.1.p_.zaB v8.f_).bind fun x26=>
    ((idxL (x25.2.1.p_.zaB.set v8.f_.toNat { x26 with zba:=x25.1 }) v8.f_).bind fun x56=>
      if (x56.zaX == (0:Int))=true then
       (zap ({ x25.2.1 with p_:=⟨(x25.2.1.p_.zaB.set v8.f_.toNat { x26 with zba:=x25.1 })⟩ }:zae) x25.2.2 true (135:Int) a3.At_).bind fun x71=>
       some x71
      else
       (zf9 x16).bind fun x73=>
       (zap ({ x25.2.1 with p_:=⟨(x25.2.1.p_.zaB.set v8.f_.toNat { x26 with zba:=x25.1 })⟩ }:zae) x25.2.2 x73 (135:Int) a3.At_).bind fun x74=>
       some x74).bind fun y55=>
    zb4 n a3 c11 (IntKind.i64.wrap (v7+(1:Int))) ({ x25.2.1 with p_:=⟨(x25.2.1.p_.zaB.set v8.f_.toNat { x26 with zba:=x25.1 })⟩ }:zae) y55
   else
    some (v8,v9)
def zcS (n:Nat) (a0:zae) (a1:zag) (a2:Int) (a3:zaa):Option (zae × zag):=
 (zda n a0 a1 a2).bind fun x2=>
 need ((0:Int)<=(max (IntKind.i64.wrap ((a3.zas.length:Int) - (1:Int))) (0:Int))/\(max (IntKind.i64.wrap ((a3.zas.length:Int) - (1:Int))) (0:Int))<=(a3.zas.length:Int)) <|
 (zb4 n a3 n (0:Int) x2.1 x2.2).bind fun y10=>
 some (y10.1,y10.2)
end Go.Proofs.YtldnmmnnohnpkaaGreatDoor.Abs
namespace Go.Proofs.YtldnmmnnohnpkaaGreatDoor.Abs
open Go.RowKit
set_option linter.unusedVariables false
def zgD (rec_:Int->List Int->Option (Bool × List Int)) (to:Int):List Int->List Int->Option (Bool × List Int)
 | [],seen=>some (false,seen)
 | k::ks,seen=>
   if (k == to)=true then some (true,seen)
   else
    (idxL seen k).bind fun s=>
    if (IntKind.i64.wrap (s+(1:Int)) == (1:Int))=true then
     (rec_ k (seen.set k.toNat (IntKind.i64.wrap (s+(1:Int))))).bind fun r=>
     if r.1=true then some (true,r.2) else zgD rec_ to ks r.2
    else zgD rec_ to ks (seen.set k.toNat (IntKind.i64.wrap (s+(1:Int))))
def zcN:Nat->zae->Int->Int->List Int->Option (Bool × List Int)
 | 0,_,_,_,_=>none
 | n+1,c,fr,to,seen=>(idxL c.za0 fr).bind fun l=>need (l.length<=1073741824) <| zgD (fun k s=>zcN n c k to s) to l seen
abbrev Look:=Int->zaa->zae->zag->Option (zae × zag)
def zfA (look:Look):List zaa->Nat->zae->zag->Option (zae × zag)
 | [],_,c,w=>some (c,w)
 | f::l,i,c,w=>if (w.e_ == (0:Int))=true then (look i f c w).bind fun r=>zfA look l (i+1) r.1 r.2 else zfA look l (i+1) c w
def zgt (nodes:List zaa):List Look->zae->zag->Option (zae × zag)
 | [],c,w=>some (c,w)
 | look::ls,c,w=>(zfA look nodes 0 c w).bind fun r=>zgt nodes ls r.1 r.2
def zhr (n len:Nat) (c:zae):List zaa->Nat->zag->Option zag
 | [],_,w=>some w
 | f::l,i,w=>if (w.e_ == (0:Int))=true then (zcN n c i i (List.replicate len 0)).bind fun r=>(zap c w (!r.1) (134:Int) f.At_).bind fun w'=>zhr n len c l (i+1) w' else zhr n len c l (i+1) w
def zgv (n:Nat) (a0:Str):Option (zaz × Int × Int):=
 (zhe n a0).bind fun p=>
 if (p.2.1 != (0:Int))=true then some (⟨[]⟩,p.2.1,p.2.2)
 else
  (zd2 n zae.Z ⟨0,0⟩ p.1).bind fun a=>
  need (p.1.zas.length<=1073741824) <|
  (zgt p.1.zas [fun i f c w=>zcR n c w i f,fun i f c w=>zcS n c w i f] a.1 a.2).bind fun b=>
  (zhr n p.1.zas.length b.1 p.1.zas 0 b.2).bind fun w=>
  if (w.e_ != (0:Int))=true then some (⟨[]⟩,w.e_,w.zj8) else some (b.1.p_,0,0)
end Go.Proofs.YtldnmmnnohnpkaaGreatDoor.Abs
