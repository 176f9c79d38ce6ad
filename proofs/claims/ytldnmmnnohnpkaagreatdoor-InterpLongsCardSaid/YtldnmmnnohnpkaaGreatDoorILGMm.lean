/-
 Plain models of functions. Written by a program of mine (gen.py) for this claim.
-/
import Derived.Test.YtldnmmnnohnpkaaGreatDoorILS3
namespace Go.Proofs.YtldnmmnnohnpkaaGreatDoor.Abs
set_option linter.unusedVariables false
open Go.RowKit
structure zaE where
 name_:Str
 args_:Int
def zaE.C (x:zaE):List V:=[.lit (.string (bs x.name_)),.lit (.int .i64 x.args_)]
@[go_sem] theorem zaE.C_eq (x:zaE):zaE.C x=[.lit (.string (bs x.name_)),.lit (.int .i64 x.args_)]:=_root_.id rfl
structure zaJ where
 zov:Str
 op_:Int
def zaJ.C (x:zaJ):List V:=[.lit (.string (bs x.zov)),.lit (.int .i64 x.op_)]
@[go_sem] theorem zaJ.C_eq (x:zaJ):zaJ.C x=[.lit (.string (bs x.zov)),.lit (.int .i64 x.op_)]:=_root_.id rfl
structure zbs where
 zbA:Int
 At_:Int
 zbr:Str
 Num_:Int
def zbs.C (x:zbs):List V:=[.lit (.int .i64 x.zbA),.lit (.int .i64 x.At_),.lit (.string (bs x.zbr)),.lit (.int .u32 x.Num_)]
@[go_sem] theorem zbs.C_eq (x:zbs):zbs.C x=[.lit (.int .i64 x.zbA),.lit (.int .i64 x.At_),.lit (.string (bs x.zbr)),.lit (.int .u32 x.Num_)]:=_root_.id rfl
structure zab where
 zbA:Int
 At_:Int
 zbr:Str
 Num_:Int
 zax:(List zab)
mutual
def zab.C:zab->List V
 | ⟨a0,a1,a2,a3,a4⟩=>[.lit (.int .i64 a0),.lit (.int .i64 a1),.lit (.string (bs a2)),.lit (.int .u32 a3),.list .none (zab.CL a4)]
def zab.CL:List zab->List (List V)
 | []=>[]
 | x::l=>zab.C x::zab.CL l
end
theorem zab.CL_eq (l:List zab):zab.CL l=l.map zab.C:=by
 induction l with
 | nil=>rfl
 | cons x l ih=>rw [zab.CL,ih];rfl
@[go_sem] theorem zab.C_eq (x:zab):zab.C x=[.lit (.int .i64 x.zbA),.lit (.int .i64 x.At_),.lit (.string (bs x.zbr)),.lit (.int .u32 x.Num_),.list .none (x.zax.map zab.C)]:=by
 cases x;simp only [zab.C,zab.CL_eq]
structure zac where
 l_:(List zbs)
 at_:Int
 zhw:Int
 e_:Int
 zj1:Int
def zac.C (x:zac):List V:=[.list .none (x.l_.map zbs.C),.lit (.int .i64 x.at_),.lit (.int .i64 x.zhw),.lit (.int .i64 x.e_),.lit (.int .i64 x.zj1)]
@[go_sem] theorem zac.C_eq (x:zac):zac.C x=[.list .none (x.l_.map zbs.C),.lit (.int .i64 x.at_),.lit (.int .i64 x.zhw),.lit (.int .i64 x.e_),.lit (.int .i64 x.zj1)]:=_root_.id rfl
structure zaD where
 zgC:Str
 zbA:Int
 zf8:Int
def zaD.C (x:zaD):List V:=[.lit (.string (bs x.zgC)),.lit (.int .i64 x.zbA),.lit (.int .i64 x.zf8)]
@[go_sem] theorem zaD.C_eq (x:zaD):zaD.C x=[.lit (.string (bs x.zgC)),.lit (.int .i64 x.zbA),.lit (.int .i64 x.zf8)]:=_root_.id rfl
structure zae where
 Op_:Str
 zcK:Int
 N_:Int
 Var_:Int
 zax:(List zae)
 At_:Int
mutual
def zae.C:zae->List V
 | ⟨a0,a1,a2,a3,a4,a5⟩=>[.lit (.string (bs a0)),.lit (.int .i64 a1),.lit (.int .u32 a2),.lit (.int .i64 a3),.list .none (zae.CL a4),.lit (.int .i64 a5)]
def zae.CL:List zae->List (List V)
 | []=>[]
 | x::l=>zae.C x::zae.CL l
end
theorem zae.CL_eq (l:List zae):zae.CL l=l.map zae.C:=by
 induction l with
 | nil=>rfl
 | cons x l ih=>rw [zae.CL,ih];rfl
@[go_sem] theorem zae.C_eq (x:zae):zae.C x=[.lit (.string (bs x.Op_)),.lit (.int .i64 x.zcK),.lit (.int .u32 x.N_),.lit (.int .i64 x.Var_),.list .none (x.zax.map zae.C),.lit (.int .i64 x.At_)]:=by
 cases x;simp only [zae.C,zae.CL_eq]
structure zaf where
 Op_:Str
 Var_:Int
 zhh:Int
 zax:(List zae)
 zdB:(List zaf)
 zis:(List zaf)
 At_:Int
mutual
def zaf.C:zaf->List V
 | ⟨a0,a1,a2,a3,a4,a5,a6⟩=>[.lit (.string (bs a0)),.lit (.int .i64 a1),.lit (.int .i64 a2),.list .none (a3.map zae.C),.list .none (zaf.CL a4),.list .none (zaf.CL a5),.lit (.int .i64 a6)]
def zaf.CL:List zaf->List (List V)
 | []=>[]
 | x::l=>zaf.C x::zaf.CL l
end
theorem zaf.CL_eq (l:List zaf):zaf.CL l=l.map zaf.C:=by
 induction l with
 | nil=>rfl
 | cons x l ih=>rw [zaf.CL,ih];rfl
@[go_sem] theorem zaf.C_eq (x:zaf):zaf.C x=[.lit (.string (bs x.Op_)),.lit (.int .i64 x.Var_),.lit (.int .i64 x.zhh),.list .none (x.zax.map zae.C),.list .none (x.zdB.map zaf.C),.list .none (x.zis.map zaf.C),.lit (.int .i64 x.At_)]:=by
 cases x;simp only [zaf.C,zaf.CL_eq]
structure zaI where
 zgC:Str
 zgk:Bool
 zct:Int
 zbd:Int
 zbg:(List zaD)
 zdB:(List zaf)
def zaI.C (x:zaI):List V:=[.lit (.string (bs x.zgC)),.lit (.bool x.zgk),.lit (.int .i64 x.zct),.lit (.int .i64 x.zbd),.list .none (x.zbg.map zaD.C),.list .none (x.zdB.map zaf.C)]
@[go_sem] theorem zaI.C_eq (x:zaI):zaI.C x=[.lit (.string (bs x.zgC)),.lit (.bool x.zgk),.lit (.int .i64 x.zct),.lit (.int .i64 x.zbd),.list .none (x.zbg.map zaD.C),.list .none (x.zdB.map zaf.C)]:=_root_.id rfl
structure zas where
 zbp:(List zaI)
def zas.C (x:zas):List V:=[.list .none (x.zbp.map zaI.C)]
@[go_sem] theorem zas.C_eq (x:zas):zas.C x=[.list .none (x.zbp.map zaI.C)]:=_root_.id rfl
def zas.Z:zas:=⟨[]⟩
structure zaj where
 e_:Int
 zj1:Int
structure zad where
 p_:zas
 f_:Int
 zaX:List Int
 zbS:List (List Int)
 at_:Int
def zad.Z:zad:=⟨zas.Z,-1,[],[],0⟩
def ckC (F fp S C:V) (x:zad) (y:zaj):List V:=[F,fp,S,C,.lit (.int .i64 x.at_),.lit (.int .i64 y.e_),.lit (.int .i64 y.zj1)]
@[go_sem] theorem ckC_eq {F fp S C:V} {x:zad} {y:zaj}:ckC F fp S C x y=[F,fp,S,C,.lit (.int .i64 x.at_),.lit (.int .i64 y.e_),.lit (.int .i64 y.zj1)]:=_root_.id rfl
def zcz:List Str:=[[45,62],[46,46],[61,61],[60,60,60],[60,60],[62,62],[60],[40],[41],[123],[125],[91],[93],[44],[59],[58],[61],[43],[45],[42],[47],[37],[38],[124],[94],[126]]
@[go_sem] theorem zoY:(cA cS zcz).length=26:=by kernel_rfl
@[go_sem] theorem zoi:(cA cS zcz).take 26=(cA cS zcz):=by kernel_rfl
def zaZ:List Str:=[[102,110],[101,120,112,111,114,116],[108,101,116],[118,97,114],[97,114,114],[105,102],[101,108,115,101],[102,111,114],[105,110],[114,101,116,117,114,110],[112,117,98],[117,51,50],[117,54,52]]
@[go_sem] theorem zn8:(cA cS zaZ).length=13:=by kernel_rfl
@[go_sem] theorem znh:zkI 1 13 (cA cS zaZ)=zaZ.map cS:=_root_.id rfl
def zbq:List (List Str):=[[[124],[],[]],[[94],[],[]],[[38],[],[]],[[61,61],[60],[]],[[60,60],[62,62],[60,60,60]],[[43],[45],[]],[[42],[47],[37]]]
def za3:List zaE:=[(zaE.mk [115,101,108,101,99,116] 3),(zaE.mk [108,111,110,103] 1),(zaE.mk [108,111] 1),(zaE.mk [104,105] 1),(zaE.mk [119,105,100,101] 2)]
@[go_sem] theorem zoa:(cA zaE.C za3).length=10:=by kernel_rfl
@[go_sem] theorem znC:(cA zaE.C za3).take 10=(cA zaE.C za3):=by kernel_rfl
@[go_sem] theorem zmR:(cA zaE.C za3).map V.shared=(cA zaE.C za3):=_root_.id rfl
def zbx:List zaJ:=[(zaJ.mk [124] 5),(zaJ.mk [94] 6),(zaJ.mk [38] 7),(zaJ.mk [61,61] 8),(zaJ.mk [60] 9),(zaJ.mk [60,60] 10),(zaJ.mk [62,62] 11),(zaJ.mk [60,60,60] 12),(zaJ.mk [43] 13),(zaJ.mk [45] 14),(zaJ.mk [42] 15),(zaJ.mk [47] 16),(zaJ.mk [37] 17),(zaJ.mk [110,111,116] 3),(zaJ.mk [110,101,103] 4)]
@[go_sem] theorem zoj:(cA zaJ.C zbx).length=30:=by kernel_rfl
@[go_sem] theorem zn9:(cA zaJ.C zbx).take 30=(cA zaJ.C zbx):=by kernel_rfl
@[go_sem] theorem zni:(cA zaJ.C zbx).map V.shared=(cA zaJ.C zbx):=_root_.id rfl
def zlk (a0:Int):Option Bool:=
 (if (a0 == (32:Int))=true then
    some true
   else
    if (a0 == (9:Int))=true then
     some true
    else
     if (a0 == (13:Int))=true then
      some true
     else
      some (a0 == (10:Int))).bind fun y1=>
 some y1
def zcA (a0:Str) (a1:Str):Option Bool:=
 (if (decide ((a1.length:Int)<=(a0.length:Int)))=true then
    need ((0:Int)<=(a1.length:Int)/\(a1.length:Int)<=(a0.length:Int)) <|
    some (decide ((a0.take (a1.length:Int).toNat)=a1))
   else
    some false).bind fun y1=>
 some y1
def zfq (a0:Str) (a1:Str):Option Bool:=
 (zcA a0 a1).bind fun x1=>
 some x1
def zei (a0:Str) (a1:Int):Option Int:=some (Lib.indexByte a0 a1.toNat.toUInt8)
def zdy (a0:Str) (a1:Int):Option Int:=
 (zei a0 a1).bind fun x1=>
 some x1
def zen (a0:Str) (a1:Int):Option Int:=
 (zdy a0 a1).bind fun x1=>
 some x1
def zgh (a0:Str):Nat->Int->Option (Int ⊕ Int)
 | 0,_=>none
 | c4+1,v2=>
   if (decide (v2<(a0.length:Int)))=true then
    (idxL a0 v2).bind fun x9=>
    (zlk (x9.toNat:Int)).bind fun x10=>
    if x10=true then
     zgh a0 c4 (IntKind.i64.wrap (v2+(1:Int)))
    else
     need ((0:Int)<=v2/\v2<=(a0.length:Int)) <|
     (zfq (a0.drop v2.toNat) ([47,47]:Str)).bind fun x17=>
     if x17=true then
      need ((0:Int)<=v2/\v2<=(a0.length:Int)) <|
      (zen (a0.drop v2.toNat) (10:Int)).bind fun x22=>
      if (decide (x22<(0:Int)))=true then
       some (.inr (a0.length:Int))
      else
       zgh a0 c4 (IntKind.i64.wrap (v2+x22))
     else
      some (.inr v2)
   else
    some (.inl v2)
def zk6 (n:Nat) (a0:Str) (a1:Int):Option Int:=
 (zgh a0 n a1).bind fun y3=>
 y3.elim (fun y3a=>
  some y3a) (fun y3a=>
  some y3a)
def zjN (a0:Int):Option Bool:=
 (if (decide ((97:Int)<=a0))=true then
    if (decide (a0<=(122:Int)))=true then
     some true
    else
     some (a0 == (95:Int))
   else
    some (a0 == (95:Int))).bind fun y1=>
 some y1
def zkF (a0:Int):Option Bool:=
 (if (decide ((48:Int)<=a0))=true then
    some (decide (a0<=(57:Int)))
   else
    some false).bind fun y1=>
 some y1
def zg8 (a0:Str):Nat->Int->Option (Unit ⊕ Str)
 | 0,_=>none
 | c4+1,v2=>
   if (decide (v2<(a0.length:Int)))=true then
    ((idxL a0 v2).bind fun x10=>
      (zjN (x10.toNat:Int)).bind fun x11=>
      if (!x11)=true then
       (zkF (x10.toNat:Int)).bind fun x18=>
       some (!x18)
      else
       some false).bind fun y9=>
    if y9=true then
     need ((0:Int)<=v2/\v2<=(a0.length:Int)) <|
     some (.inr (a0.take v2.toNat))
    else
     zg8 a0 c4 (IntKind.i64.wrap (v2+(1:Int)))
   else
    some (.inl ())
def zl2 (n:Nat) (a0:Str):Option Str:=
 (zg8 a0 n (0:Int)).bind fun y3=>
 y3.elim (fun y3a=>
  some a0) (fun y3a=>
  some y3a)
def zdz (a0:Str) (a1:Str):Option (Str × Bool):=
 (zcA a0 a1).bind fun x1=>
 if (!x1)=true then
  some (a0,false)
 else
  need ((0:Int)<=(a1.length:Int)/\(a1.length:Int)<=(a0.length:Int)) <|
  some ((a0.drop (a1.length:Int).toNat),true)
def zgd (a0:Str) (a1:Str):Option (Str × Bool):=
 (zdz a0 a1).bind fun x1=>
 some (x1.1,x1.2)
def zgx (x1:(Str × Bool)):Nat->Int->Int->Option (Int ⊕ (Int × Bool))
 | 0,_,_=>none
 | c8+1,v5,v6=>
   if (decide (v6<(x1.1.length:Int)))=true then
    need ((0:Int)<=(16:Int)/\(16:Int)<=(([48,49,50,51,52,53,54,55,56,57,97,98,99,100,101,102]:Str).length:Int)) <|
    (idxL x1.1 v6).bind fun x13=>
    (zen (([48,49,50,51,52,53,54,55,56,57,97,98,99,100,101,102]:Str).take (16:Int).toNat) (x13.toNat:Int)).bind fun x14=>
    (if (decide (x14<(0:Int)))=true then
       some true
      else
       some (decide ((4294967295:Int)<(IntKind.i64.wrap ((IntKind.i64.wrap (v5*(16:Int)))+x14))))).bind fun y22=>
    if y22=true then
     some (.inr ((0:Int),false))
    else
     zgx x1 c8 (IntKind.i64.wrap ((IntKind.i64.wrap (v5*(16:Int)))+x14)) (IntKind.i64.wrap (v6+(1:Int)))
   else
    some (.inl v5)
def zgw (a0:Str):Nat->Int->Int->Option (Int ⊕ (Int × Bool))
 | 0,_,_=>none
 | c32+1,v29,v30=>
   if (decide (v30<(a0.length:Int)))=true then
    need ((0:Int)<=(10:Int)/\(10:Int)<=(([48,49,50,51,52,53,54,55,56,57,97,98,99,100,101,102]:Str).length:Int)) <|
    (idxL a0 v30).bind fun x37=>
    (zen (([48,49,50,51,52,53,54,55,56,57,97,98,99,100,101,102]:Str).take (10:Int).toNat) (x37.toNat:Int)).bind fun x38=>
    (if (decide (x38<(0:Int)))=true then
       some true
      else
       some (decide ((4294967295:Int)<(IntKind.i64.wrap ((IntKind.i64.wrap (v29*(10:Int)))+x38))))).bind fun y46=>
    if y46=true then
     some (.inr ((0:Int),false))
    else
     zgw a0 c32 (IntKind.i64.wrap ((IntKind.i64.wrap (v29*(10:Int)))+x38)) (IntKind.i64.wrap (v30+(1:Int)))
   else
    some (.inl v29)
def zli (n:Nat) (a0:Str):Option (Int × Bool):=
 (zgd a0 ([48,120]:Str)).bind fun x1=>
 if x1.2=true then
  (zgx x1 n (0:Int) (0:Int)).bind fun y7=>
  y7.elim (fun y7a=>
   some ((IntKind.u32.wrap y7a),(decide (x1.1 ≠ ([]:Str))))) (fun y7a=>
   some y7a)
 else
  (zgw a0 n (0:Int) (0:Int)).bind fun y31=>
  y31.elim (fun y31a=>
   some ((IntKind.u32.wrap y31a),(decide (a0 ≠ ([]:Str))))) (fun y31a=>
   some y31a)
def zg9 (a0:Str):Nat->Int->Option (Unit ⊕ Str)
 | 0,_=>none
 | c4+1,v2=>
   if (decide (v2<(26:Int)))=true then
    (idxL zcz v2).bind fun x9=>
    (zfq a0 x9).bind fun x17=>
    if x17=true then
     some (.inr x9)
    else
     zg9 a0 c4 (IntKind.i64.wrap (v2+(1:Int)))
   else
    some (.inl ())
def zl3 (n:Nat) (a0:Str):Option Str:=
 (zg9 a0 n (0:Int)).bind fun y3=>
 y3.elim (fun y3a=>
  some ([]:Str)) (fun y3a=>
  some y3a)
def zl4 (n:Nat) (a0:Str) (a1:Int):Option (zbs × Int):=
 need ((0:Int)<=a1/\a1<=(a0.length:Int)) <|
 (zl2 n (a0.drop a1.toNat)).bind fun x2=>
 (idxL a0 a1).bind fun x7=>
 (zjN (x7.toNat:Int)).bind fun x8=>
 if x8=true then
  if (decide ((32:Int)<(x2.length:Int)))=true then
   some ((zbs.mk (0:Int) (0:Int) [] (0:Int)),(102:Int))
  else
   some ((zbs.mk (1:Int) a1 x2 (0:Int)),(0:Int))
 else
  (zkF (x7.toNat:Int)).bind fun x16=>
  if x16=true then
   (zli n x2).bind fun x19=>
   if (!x19.2)=true then
    some ((zbs.mk (0:Int) (0:Int) [] (0:Int)),(101:Int))
   else
    some ((zbs.mk (2:Int) a1 x2 x19.1),(0:Int))
  else
   need ((0:Int)<=a1/\a1<=(a0.length:Int)) <|
   (zl3 n (a0.drop a1.toNat)).bind fun x22=>
   if (decide (x22=([]:Str)))=true then
    some ((zbs.mk (0:Int) (0:Int) [] (0:Int)),(100:Int))
   else
    some ((zbs.mk (3:Int) a1 x22 (0:Int)),(0:Int))
def zfY (n:Nat) (a0:Str):Nat->(List zbs)->Int->Option ((List zbs) ⊕ ((List zbs) × Int × Int))
 | 0,_,_=>none
 | c8+1,v5,v6=>
   if (decide (v6<(a0.length:Int)))=true then
    (zl4 n a0 v6).bind fun x13=>
    if (x13.2 != (0:Int))=true then
     some (.inr ([],x13.2,v6))
    else
     need (v5.length+[x13.1].length<=1073741824) <|
     (zk6 n a0 (IntKind.i64.wrap (v6+(x13.1.zbr.length:Int)))).bind fun x20=>
     zfY n a0 c8 (v5++[x13.1]) x20
   else
    some (.inl v5)
def zkQ (n:Nat) (a0:Str):Option ((List zbs) × Int × Int):=
 if (decide ((65536:Int)<(a0.length:Int)))=true then
  some ([],(161:Int),(0:Int))
 else
  (zk6 n a0 (0:Int)).bind fun x2=>
  (zfY n a0 n [] x2).bind fun y7=>
  y7.elim (fun y7a=>
   need (y7a.length+[(zbs.mk (4:Int) (a0.length:Int) [] (0:Int))].length<=1073741824) <|
   some ((y7a++[(zbs.mk (4:Int) (a0.length:Int) [] (0:Int))]),(0:Int),(0:Int))) (fun y7a=>
   some y7a)
def zbQ (a0:zac):Option zbs:=
 (idxL a0.l_ a0.at_).bind fun x2=>
 some x2
def zcM (a0:zac) (a1:Int):Option zac:=
 if (a0.e_ == (0:Int))=true then
  (zbQ a0).bind fun x2=>
  some ({ a0 with e_:=a1,zj1:=x2.At_ }:zac)
 else
  some a0
def zbX (a0:zac) (a1:Int):Option (zab × zac):=
 if (decide ((16384:Int)<(IntKind.i64.wrap (a0.zhw+(1:Int)))))=true then
  (zcM ({ a0 with zhw:=(IntKind.i64.wrap (a0.zhw+(1:Int))) }:zac) (136:Int)).bind fun x3=>
  (zbQ x3).bind fun x5=>
  some ((zab.mk a1 x5.At_ [] (0:Int) []),x3)
 else
  (zbQ ({ a0 with zhw:=(IntKind.i64.wrap (a0.zhw+(1:Int))) }:zac)).bind fun x7=>
  some ((zab.mk a1 x7.At_ [] (0:Int) []),({ a0 with zhw:=(IntKind.i64.wrap (a0.zhw+(1:Int))) }:zac))
def zb6 (a0:(List Str)) (a1:Str):Nat->Int->Option (Unit ⊕ Int)
 | 0,_=>none
 | c4+1,v2=>
   if (decide (v2<(a0.length:Int)))=true then
    (idxL a0 v2).bind fun x9=>
    if (decide (a1=x9))=true then
     some (.inr v2)
    else
     zb6 a0 a1 c4 (IntKind.i64.wrap (v2+(1:Int)))
   else
    some (.inl ())
def zdM (n:Nat) (a0:(List Str)) (a1:Str):Option Int:=
 (zb6 a0 a1 n (0:Int)).bind fun y3=>
 y3.elim (fun y3a=>
  some (-1:Int)) (fun y3a=>
  some y3a)
def zdn (n:Nat) (a0:(List Str)) (a1:Str):Option Bool:=
 (zdM n a0 a1).bind fun x1=>
 some (decide ((0:Int)<=x1))
def zjM (n:Nat) (a0:Str):Option Bool:=
 (zdn n zaZ a0).bind fun x1=>
 some x1
def zdo (n:Nat) (a0:zac) (a1:Str):Option Bool:=
 (zbQ a0).bind fun x1=>
 (if (a0.e_ == (0:Int))=true then
    if (decide (x1.zbr=a1))=true then
     if (x1.zbA == (3:Int))=true then
      some true
     else
      if (x1.zbA == (1:Int))=true then
       (zjM n a1).bind fun x9=>
       some x9
      else
       some false
    else
     some false
   else
    some false).bind fun y4=>
 some y4
def zaR (n:Nat) (a0:zac) (a1:Str):Option (Bool × zac):=
 (zdo n a0 a1).bind fun x1=>
 if (!x1)=true then
  some (false,a0)
 else
  some (true,({ a0 with at_:=(IntKind.i64.wrap (a0.at_+(1:Int))) }:zac))
def zaL (n:Nat) (a0:zac) (a1:Str):Option zac:=
 (zaR n a0 a1).bind fun x1=>
 if (!x1.1)=true then
  (zcM x1.2 (110:Int)).bind fun x4=>
  some x4
 else
  some x1.2
def zbY (n:Nat) (a0:zac):Option (Str × zac):=
 (zbQ a0).bind fun x1=>
 (if (a0.e_ != (0:Int))=true then
    some true
   else
    if (x1.zbA != (1:Int))=true then
     some true
    else
     (zjM n x1.zbr).bind fun x7=>
     some x7).bind fun y4=>
 if y4=true then
  (zcM a0 (110:Int)).bind fun x13=>
  some (([]:Str),x13)
 else
  some (x1.zbr,({ a0 with at_:=(IntKind.i64.wrap (a0.at_+(1:Int))) }:zac))
def zd6 (a0:zac):Option (Int × zac):=
 (zbQ a0).bind fun x1=>
 (if (a0.e_ != (0:Int))=true then
    some true
   else
    some (x1.zbA != (2:Int))).bind fun y4=>
 if y4=true then
  (zcM a0 (110:Int)).bind fun x10=>
  some ((0:Int),x10)
 else
  some (x1.Num_,({ a0 with at_:=(IntKind.i64.wrap (a0.at_+(1:Int))) }:zac))
def zeC (n:Nat) (a0:zac):Option (Int × zac):=
 (zaL n a0 ([91]:Str)).bind fun x1=>
 (zd6 x1).bind fun x3=>
 (zaL n x3.2 ([93]:Str)).bind fun x5=>
 some (x3.1,x5)
def zfU:List Str:=[([112,117,98]:Str),([117,51,50]:Str),([117,54,52]:Str)]
def zcT (n:Nat):Nat->Int->zac->zab->zab->Option ((zac × zab × zab) ⊕ (zab × zac))
 | 0,_,_,_,_=>none
 | c15+1,v10,v11,v12,v13=>
   if (decide (v10<(3:Int)))=true then
    (idxL zfU v10).bind fun x20=>
    (zaR n v11 x20).bind fun x29=>
    if x29.1=true then
     some (.inr (({ v13 with Num_:=(IntKind.u32.wrap (IntKind.i64.wrap ((1:Int)+v10))) }:zab),x29.2))
    else
     zcT n c15 (IntKind.i64.wrap (v10+(1:Int))) x29.2 v12 v13
   else
    some (.inl (v11,v12,v13))
def zfx (n:Nat) (a0:zac):Option (zab × zac):=
 (zbX a0 (3:Int)).bind fun x2=>
 (zbY n x2.2).bind fun x5=>
 (zaL n x5.2 ([58]:Str)).bind fun x7=>
 (zcT n n (0:Int) x7 (zab.mk (0:Int) (0:Int) [] (0:Int) []) ({ x2.1 with zbr:=x5.1 }:zab)).bind fun y14=>
 y14.elim (fun y14a=>
  (zbX y14a.1 (14:Int)).bind fun x37=>
  (zeC n x37.2).bind fun x40=>
  some (({ y14a.2.2 with Num_:=(4:Int),zax:=[({ x37.1 with Num_:=x40.1 }:zab)] }:zab),x40.2)) (fun y14a=>
  some y14a)
def zcf (n:Nat):Nat->(List zab)->zac->Option ((List zab) × zac)
 | 0,_,_=>none
 | c11+1,v8,v9=>
   if (v9.e_ == (0:Int))=true then
    (zfx n v9).bind fun x16=>
    need (v8.length+[x16.1].length<=1073741824) <|
    (zaR n x16.2 ([44]:Str)).bind fun x21=>
    if (!x21.1)=true then
     some ((v8++[x16.1]),x21.2)
    else
     zcf n c11 (v8++[x16.1]) x21.2
   else
    some (v8,v9)
def zde (n:Nat) (a0:zac):Option ((List zab) × zac):=
 (zaL n a0 ([40]:Str)).bind fun x1=>
 (zaR n x1 ([41]:Str)).bind fun x3=>
 if x3.1=true then
  some ([],x3.2)
 else
  ((zcf n n [] x3.2).bind fun y10=>
    some (y10.1,y10.2)).bind fun y6=>
  (zaL n y6.2 ([41]:Str)).bind fun x27=>
  some (y6.1,x27)
def zeF (a0:zac) (a1:Int):Option zac:=
 if (decide ((64:Int)<a1))=true then
  (zcM a0 (111:Int)).bind fun x2=>
  some x2
 else
  some a0
def zdh (n:Nat) (x1:(List Str)) (a0:zac):Nat->Int->Option (Unit ⊕ Str)
 | 0,_=>none
 | c15+1,v13=>
   if (decide (v13<(3:Int)))=true then
    (idxL x1 v13).bind fun x20=>
    (if (decide (x20 ≠ ([]:Str)))=true then
       (zdo n a0 x20).bind fun x31=>
       some x31
      else
       some false).bind fun y29=>
    if y29=true then
     some (.inr x20)
    else
     zdh n x1 a0 c15 (IntKind.i64.wrap (v13+(1:Int)))
   else
    some (.inl ())
def zeD (n:Nat) (a0:zac) (a1:Int):Option Str:=
 (idxL zbq a1).bind fun x1=>
 (zdh n x1 a0 n (0:Int)).bind fun y14=>
 y14.elim (fun y14a=>
  some ([]:Str)) (fun y14a=>
  some y14a)
def zbV (zbC:zac->Int->Option (zab × zac)) (n:Nat) (a1:Int):Nat->(List zab)->zac->Option ((List zab) × zac)
 | 0,_,_=>none
 | c11+1,v8,v9=>
   if (v9.e_ == (0:Int))=true then
    (zbC v9 a1).bind fun x16=>
    need (v8.length+[x16.1].length<=1073741824) <|
    (zaR n x16.2 ([44]:Str)).bind fun x21=>
    if (!x21.1)=true then
     some ((v8++[x16.1]),x21.2)
    else
     zbV zbC n a1 c11 (v8++[x16.1]) x21.2
   else
    some (v8,v9)
def zc9 (zbC:zac->Int->Option (zab × zac)) (n:Nat) (a0:zac) (a1:Int):Option ((List zab) × zac):=
 (zaL n a0 ([40]:Str)).bind fun x1=>
 (zaR n x1 ([41]:Str)).bind fun x3=>
 if x3.1=true then
  some ([],x3.2)
 else
  ((zbV zbC n a1 n [] x3.2).bind fun y10=>
    some (y10.1,y10.2)).bind fun y6=>
  (zaL n y6.2 ([41]:Str)).bind fun x27=>
  some (y6.1,x27)
def zfe (zba:zac->Int->Int->Option (zab × zac)) (n:Nat) (a0:zac) (a1:Int):Option (zab × zac):=
 (zba a0 (0:Int) a1).bind fun x2=>
 some (x2.1,x2.2)
def zcU (zba:zac->Int->Int->Option (zab × zac)) (n:Nat) (a1:Int) (a2:Int):Nat->Str->zac->zab->Option (zac × zab)
 | 0,_,_,_=>none
 | c15+1,v11,v12,v13=>
   if (decide (v11 ≠ ([]:Str)))=true then
    (zbX v12 (19:Int)).bind fun x20=>
    (zaL n x20.2 v11).bind fun x23=>
    (zba x23 (IntKind.i64.wrap (a1+(1:Int))) a2).bind fun x25=>
    if (a1 == (3:Int))=true then
     some (x25.2,({ x20.1 with zbr:=v11,zax:=[v13,x25.1] }:zab))
    else
     (zeD n x25.2 a1).bind fun x28=>
     zcU zba n a1 a2 c15 x28 x25.2 ({ x20.1 with zbr:=v11,zax:=[v13,x25.1] }:zab)
   else
    some (v12,v13)
def zeU (za7:zac->Int->Option (zab × zac)) (zba:zac->Int->Int->Option (zab × zac)) (n:Nat) (a0:zac) (a1:Int) (a2:Int):Option (zab × zac):=
 if (a1 == (7:Int))=true then
  (za7 a0 a2).bind fun x3=>
  some (x3.1,x3.2)
 else
  (zba a0 (IntKind.i64.wrap (a1+(1:Int))) a2).bind fun x5=>
  (zeD n x5.2 a1).bind fun x8=>
  (zcU zba n a1 a2 n x8 x5.2 x5.1).bind fun y14=>
  some (y14.2,y14.1)
def zfB:List Str:=[([126]:Str),([45]:Str)]
def zcD (za7:zac->Int->Option (zab × zac)) (n:Nat) (a1:Int):Nat->Int->zac->zab->zab->Option ((zac × zab × zab) ⊕ (zab × zac))
 | 0,_,_,_,_=>none
 | c23+1,v18,v19,v20,v21=>
   if (decide (v18<(2:Int)))=true then
    (idxL zfB v18).bind fun x28=>
    (zaR n v19 x28).bind fun x37=>
    if x37.1=true then
     (za7 x37.2 (IntKind.i64.wrap (a1+(1:Int)))).bind fun x40=>
     some (.inr (({ v20 with zbA:=(18:Int),zbr:=x28,zax:=[x40.1] }:zab),x40.2))
    else
     zcD za7 n a1 c23 (IntKind.i64.wrap (v18+(1:Int))) x37.2 v20 v21
   else
    some (.inl (v19,v20,v21))
def zep (zbE:zac->Int->Option (zab × zac)) (za7:zac->Int->Option (zab × zac)) (zcg:zac->Int->Option ((List zab) × zac)) (n:Nat) (a0:zac) (a1:Int):Option (zab × zac):=
 (zeF a0 a1).bind fun x4=>
 (zaR n x4 ([40]:Str)).bind fun x6=>
 if x6.1=true then
  (zbE x6.2 (IntKind.i64.wrap (a1+(1:Int)))).bind fun x9=>
  (zaL n x9.2 ([41]:Str)).bind fun x12=>
  some (x9.1,x12)
 else
  (zbX x6.2 (15:Int)).bind fun x14=>
  (zcD za7 n a1 n (0:Int) x14.2 x14.1 (zab.mk (0:Int) (0:Int) [] (0:Int) [])).bind fun y22=>
  y22.elim (fun y22a=>
   (if (y22a.1.e_ == (0:Int))=true then
      (zbQ y22a.1).bind fun x72=>
      some (x72.zbA == (2:Int))
     else
      some false).bind fun y70=>
   if y70=true then
    (zd6 y22a.1).bind fun x78=>
    some (({ y22a.2.1 with zbA:=(14:Int),Num_:=x78.1 }:zab),x78.2)
   else
    (zbY n y22a.1).bind fun x80=>
    ((zdo n x80.2 ([40]:Str)).bind fun x83=>
      if x83=true then
       (zcg x80.2 a1).bind fun x86=>
       some (x86.2,({ y22a.2.1 with zbA:=(17:Int),zbr:=x80.1,zax:=x86.1 }:zab))
      else
       (zaR n x80.2 ([91]:Str)).bind fun x88=>
       if x88.1=true then
        (zbE x88.2 (IntKind.i64.wrap (a1+(1:Int)))).bind fun x91=>
        (zaL n x91.2 ([93]:Str)).bind fun x93=>
        some (x93,({ y22a.2.1 with zbA:=(16:Int),zbr:=x80.1,zax:=[x91.1] }:zab))
       else
        some (x88.2,({ y22a.2.1 with zbr:=x80.1 }:zab))).bind fun y82=>
    some (y82.2,y82.1)) (fun y22a=>
   some y22a)
def zd3 (zbE:zac->Int->Option (zab × zac)) (n:Nat) (a0:zac) (a1:Int):Option (zab × zac):=
 (zbE a0 (IntKind.i64.wrap (a1+(1:Int)))).bind fun x2=>
 some (x2.1,x2.2)
def zaQ:Nat->(zac->Int->Option ((List zab) × zac)) × (zac->Int->Option (zab × zac)) × (zac->Int->Int->Option (zab × zac)) × (zac->Int->Option (zab × zac)) × (zac->Int->Option (zab × zac))
 | 0=>(fun _ _=>none,fun _ _=>none,fun _ _ _=>none,fun _ _=>none,fun _ _=>none)
 | n+1=>(zc9 (zaQ n).2.2.2.2 n,zfe (zaQ n).2.2.1 n,zeU (zaQ n).2.2.2.1 (zaQ n).2.2.1 n,zep (zaQ n).2.1 (zaQ n).2.2.2.1 (zaQ n).1 n,zd3 (zaQ n).2.1 n)
def zgs (n:Nat):zac->Int->Option ((List zab) × zac):=(zaQ n).1
def zbM (n:Nat):zac->Int->Option (zab × zac):=(zaQ n).2.1
def zjT (n:Nat):zac->Int->Int->Option (zab × zac):=(zaQ n).2.2.1
def zi2 (n:Nat):zac->Int->Option (zab × zac):=(zaQ n).2.2.2.1
def zh4 (n:Nat):zac->Int->Option (zab × zac):=(zaQ n).2.2.2.2
def zej (n:Nat) (a0:zac) (a1:zab) (a2:Int):Option (zab × zac):=
 (zbY n a0).bind fun x3=>
 (zaL n x3.2 ([61]:Str)).bind fun x5=>
 (zbM n x5 a2).bind fun x7=>
 (zaL n x7.2 ([59]:Str)).bind fun x9=>
 some (({ a1 with zbr:=x3.1,zax:=[x7.1] }:zab),x9)
def zeT (n:Nat) (a0:zac) (a1:Int):Option (zab × zac):=
 (zbM n a0 (IntKind.i64.wrap (a1+(2:Int)))).bind fun x2=>
 some (x2.1,x2.2)
def zb7 (n:Nat) (a1:Int):Nat->(List zab)->zac->Option ((List zab) × zac)
 | 0,_,_=>none
 | c11+1,v8,v9=>
   if (v9.e_ == (0:Int))=true then
    (zeT n v9 a1).bind fun x16=>
    need (v8.length+[x16.1].length<=1073741824) <|
    (zaR n x16.2 ([44]:Str)).bind fun x21=>
    if (!x21.1)=true then
     some ((v8++[x16.1]),x21.2)
    else
     zb7 n a1 c11 (v8++[x16.1]) x21.2
   else
    some (v8,v9)
def zdP (n:Nat) (a0:zac) (a1:Int):Option ((List zab) × zac):=
 (zaL n a0 ([40]:Str)).bind fun x1=>
 (zaR n x1 ([41]:Str)).bind fun x3=>
 if x3.1=true then
  some ([],x3.2)
 else
  ((zb7 n a1 n [] x3.2).bind fun y10=>
    some (y10.1,y10.2)).bind fun y6=>
  (zaL n y6.2 ([41]:Str)).bind fun x27=>
  some (y6.1,x27)
def zfw (n:Nat) (a0:zac) (a1:zab) (a2:Int):Option (zab × zac):=
 (zbY n a0).bind fun x5=>
 ((zdo n x5.2 ([40]:Str)).bind fun x8=>
   if x8=true then
    (zdP n x5.2 a2).bind fun x11=>
    some (x11.2,({ a1 with zbA:=(10:Int),zbr:=x5.1,zax:=x11.1 }:zab))
   else
    (zaR n x5.2 ([91]:Str)).bind fun x13=>
    if x13.1=true then
     (zbM n x13.2 (IntKind.i64.wrap (a2+(2:Int)))).bind fun x16=>
     (zaL n x16.2 ([93]:Str)).bind fun x18=>
     (zaL n x18 ([61]:Str)).bind fun x20=>
     (zbM n x20 (IntKind.i64.wrap (a2+(1:Int)))).bind fun x22=>
     need ([x16.1].length+[x22.1].length<=1073741824) <|
     some (x22.2,({ a1 with zbA:=(9:Int),zbr:=x5.1,zax:=([x16.1]++[x22.1]) }:zab))
    else
     (zaL n x13.2 ([61]:Str)).bind fun x25=>
     (zbM n x25 (IntKind.i64.wrap (a2+(1:Int)))).bind fun x27=>
     some (x27.2,({ a1 with zbr:=x5.1,zax:=[x27.1] }:zab))).bind fun y7=>
 (zaL n y7.1 ([59]:Str)).bind fun x32=>
 some (y7.2,x32)
def zcV (zbB:zac->Int->Option (zab × zac)) (n:Nat) (a1:Int):Nat->zac->zab->Option (zac × zab)
 | 0,_,_=>none
 | c13+1,v10,v11=>
   (if (v10.e_ == (0:Int))=true then
      (zdo n v10 ([125]:Str)).bind fun x19=>
      some (!x19)
     else
      some false).bind fun y17=>
   if y17=true then
    (zbB v10 a1).bind fun x25=>
    need (v11.zax.length+[x25.1].length<=1073741824) <|
    zcV zbB n a1 c13 x25.2 ({ v11 with zax:=(v11.zax++[x25.1]) }:zab)
   else
    some (v10,v11)
def zeV (zbB:zac->Int->Option (zab × zac)) (n:Nat) (a0:zac) (a1:Int):Option (zab × zac):=
 (zeF a0 a1).bind fun x2=>
 (zbX x2 (4:Int)).bind fun x4=>
 (zaL n x4.2 ([123]:Str)).bind fun x7=>
 (zcV zbB n a1 n x7 x4.1).bind fun y12=>
 (zaL n y12.1 ([125]:Str)).bind fun x32=>
 some (y12.2,x32)
def zd1 (zdq:zac->zab->Int->Option (zab × zac)) (zdO:zac->zab->Int->Option (zab × zac)) (n:Nat) (a0:zac) (a1:Int):Option (zab × zac):=
 (zbX a0 (8:Int)).bind fun x2=>
 ((zaR n x2.2 ([108,101,116]:Str)).bind fun x6=>
   if x6.1=true then
    (zej n x6.2 ({ x2.1 with zbA:=(5:Int) }:zab) (IntKind.i64.wrap (a1+(1:Int)))).bind fun x9=>
    some (.inr (x9.1,x9.2))
   else
    (zaR n x6.2 ([118,97,114]:Str)).bind fun x11=>
    if x11.1=true then
     (zej n x11.2 ({ x2.1 with zbA:=(6:Int) }:zab) (IntKind.i64.wrap (a1+(1:Int)))).bind fun x14=>
     some (.inr (x14.1,x14.2))
    else
     (zaR n x11.2 ([97,114,114]:Str)).bind fun x16=>
     if x16.1=true then
      (zbY n x16.2).bind fun x19=>
      (zeC n x19.2).bind fun x21=>
      some (.inl (x21.2,({ x2.1 with zbA:=(7:Int),zbr:=x19.1,Num_:=x21.1 }:zab)))
     else
      (zaR n x16.2 ([114,101,116,117,114,110]:Str)).bind fun x23=>
      if x23.1=true then
       (zbM n x23.2 (IntKind.i64.wrap (a1+(1:Int)))).bind fun x26=>
       some (.inl (x26.2,({ x2.1 with zbA:=(13:Int),zax:=[x26.1] }:zab)))
      else
       (zaR n x23.2 ([105,102]:Str)).bind fun x28=>
       if x28.1=true then
        (zdq x28.2 x2.1 a1).bind fun x31=>
        some (.inr (x31.1,x31.2))
       else
        (zaR n x28.2 ([102,111,114]:Str)).bind fun x33=>
        if x33.1=true then
         (zdO x33.2 x2.1 a1).bind fun x36=>
         some (.inr (x36.1,x36.2))
        else
         (zfw n x33.2 x2.1 a1).bind fun x38=>
         some (.inr (x38.1,x38.2)):Option ((zac × zab) ⊕ (zab × zac))).bind fun y5=>
 y5.elim (fun y5a=>
  (zaL n y5a.1 ([59]:Str)).bind fun x43=>
  some (y5a.2,x43)) (fun y5a=>
  some y5a)
def zeG (zby:zac->Int->Option (zab × zac)) (n:Nat) (a0:zac) (a1:zab) (a2:Int):Option (zab × zac):=
 (zbM n a0 (IntKind.i64.wrap (a2+(1:Int)))).bind fun x3=>
 (zby x3.2 (IntKind.i64.wrap (a2+(1:Int)))).bind fun x5=>
 need ([x3.1].length+[x5.1].length<=1073741824) <|
 (zaR n x5.2 ([101,108,115,101]:Str)).bind fun x8=>
 if x8.1=true then
  (zby x8.2 (IntKind.i64.wrap (a2+(1:Int)))).bind fun x11=>
  need (([x3.1]++[x5.1]).length+[x11.1].length<=1073741824) <|
  some (({ a1 with zbA:=(11:Int),zax:=(([x3.1]++[x5.1])++[x11.1]) }:zab),x11.2)
 else
  some (({ a1 with zbA:=(11:Int),zax:=([x3.1]++[x5.1]) }:zab),x8.2)
def zfc (zby:zac->Int->Option (zab × zac)) (n:Nat) (a0:zac) (a1:zab) (a2:Int):Option (zab × zac):=
 (zbY n a0).bind fun x3=>
 (zaL n x3.2 ([105,110]:Str)).bind fun x5=>
 (zbM n x5 (IntKind.i64.wrap (a2+(1:Int)))).bind fun x7=>
 (zaL n x7.2 ([46,46]:Str)).bind fun x9=>
 (zbM n x9 (IntKind.i64.wrap (a2+(1:Int)))).bind fun x11=>
 need ([x7.1].length+[x11.1].length<=1073741824) <|
 (zby x11.2 (IntKind.i64.wrap (a2+(1:Int)))).bind fun x14=>
 need (([x7.1]++[x11.1]).length+[x14.1].length<=1073741824) <|
 some (({ a1 with zbA:=(12:Int),zbr:=x3.1,zax:=(([x7.1]++[x11.1])++[x14.1]) }:zab),x14.2)
def zbH:Nat->(zac->Int->Option (zab × zac)) × (zac->Int->Option (zab × zac)) × (zac->zab->Int->Option (zab × zac)) × (zac->zab->Int->Option (zab × zac))
 | 0=>(fun _ _=>none,fun _ _=>none,fun _ _ _=>none,fun _ _ _=>none)
 | n+1=>(zeV (zbH n).2.1 n,zd1 (zbH n).2.2.1 (zbH n).2.2.2 n,zeG (zbH n).1 n,zfc (zbH n).1 n)
def zci (n:Nat):zac->Int->Option (zab × zac):=(zbH n).1
def zh2 (n:Nat):zac->Int->Option (zab × zac):=(zbH n).2.1
def zjw (n:Nat):zac->zab->Int->Option (zab × zac):=(zbH n).2.2.1
def zkl (n:Nat):zac->zab->Int->Option (zab × zac):=(zbH n).2.2.2
def zeE (n:Nat) (a0:zac):Option (zab × zac):=
 (zbX a0 (2:Int)).bind fun x2=>
 (zaR n x2.2 ([101,120,112,111,114,116]:Str)).bind fun x5=>
 if x5.1=true then
  (zaL n x5.2 ([102,110]:Str)).bind fun x8=>
  (zbY n x8).bind fun x10=>
  (zde n x10.2).bind fun x12=>
  (zaR n x12.2 ([45,62]:Str)).bind fun x14=>
  if x14.1=true then
   (zaR n x14.2 ([117,51,50]:Str)).bind fun x17=>
   if x17.1=true then
    (zci n x17.2 (1:Int)).bind fun x20=>
    need (x12.1.length+[x20.1].length<=1073741824) <|
    some (({ x2.1 with zbr:=x10.1,Num_:=(orK .u32 (1:Int) (2:Int)),zax:=(x12.1++[x20.1]) }:zab),x20.2)
   else
    (zaL n x17.2 ([117,54,52]:Str)).bind fun x25=>
    (zci n x25 (1:Int)).bind fun x27=>
    need (x12.1.length+[x27.1].length<=1073741824) <|
    some (({ x2.1 with zbr:=x10.1,Num_:=(orK .u32 (1:Int) (4:Int)),zax:=(x12.1++[x27.1]) }:zab),x27.2)
  else
   (zci n x14.2 (1:Int)).bind fun x32=>
   need (x12.1.length+[x32.1].length<=1073741824) <|
   some (({ x2.1 with zbr:=x10.1,Num_:=(1:Int),zax:=(x12.1++[x32.1]) }:zab),x32.2)
 else
  (zaL n x5.2 ([102,110]:Str)).bind fun x37=>
  (zbY n x37).bind fun x39=>
  (zde n x39.2).bind fun x41=>
  (zaR n x41.2 ([45,62]:Str)).bind fun x43=>
  if x43.1=true then
   (zaR n x43.2 ([117,51,50]:Str)).bind fun x46=>
   if x46.1=true then
    (zci n x46.2 (1:Int)).bind fun x49=>
    need (x41.1.length+[x49.1].length<=1073741824) <|
    some (({ x2.1 with zbr:=x39.1,Num_:=(orK .u32 x2.1.Num_ (2:Int)),zax:=(x41.1++[x49.1]) }:zab),x49.2)
   else
    (zaL n x46.2 ([117,54,52]:Str)).bind fun x54=>
    (zci n x54 (1:Int)).bind fun x56=>
    need (x41.1.length+[x56.1].length<=1073741824) <|
    some (({ x2.1 with zbr:=x39.1,Num_:=(orK .u32 x2.1.Num_ (4:Int)),zax:=(x41.1++[x56.1]) }:zab),x56.2)
  else
   (zci n x43.2 (1:Int)).bind fun x61=>
   need (x41.1.length+[x61.1].length<=1073741824) <|
   some (({ x2.1 with zbr:=x39.1,zax:=(x41.1++[x61.1]) }:zab),x61.2)
def zfA (n:Nat):Nat->zac->zab->Option (zac × zab)
 | 0,_,_=>none
 | c13+1,v10,v11=>
   (if (v10.e_ == (0:Int))=true then
      (zbQ v10).bind fun x19=>
      some (x19.zbA != (4:Int))
     else
      some false).bind fun y17=>
   if y17=true then
    (zeE n v10).bind fun x25=>
    need (v11.zax.length+[x25.1].length<=1073741824) <|
    zfA n c13 x25.2 ({ v11 with zax:=(v11.zax++[x25.1]) }:zab)
   else
    some (v10,v11)
def zkj (n:Nat) (a0:Str):Option (zab × Int × Int):=
 (zkQ n a0).bind fun x2=>
 if (x2.2.1 != (0:Int))=true then
  some ((zab.mk (0:Int) (0:Int) [] (0:Int) []),x2.2.1,x2.2.2)
 else
  (zbX (zac.mk x2.1 (0:Int) (0:Int) (0:Int) (0:Int)) (1:Int)).bind fun x6=>
  (zfA n n x6.2 x6.1).bind fun y12=>
  if (y12.1.e_ != (0:Int))=true then
   some ((zab.mk (0:Int) (0:Int) [] (0:Int) []),y12.1.e_,y12.1.zj1)
  else
   some (y12.2,(0:Int),(0:Int))
def zjY (a0:zaI) (a1:Str):Option Bool:=
 some (decide (a0.zgC=a1))
def zbk (a0:(List zaI)) (a1:Str):Nat->Int->Option (Unit ⊕ Int)
 | 0,_=>none
 | c4+1,v2=>
   if (decide (v2<(a0.length:Int)))=true then
    (idxL a0 v2).bind fun x9=>
    (zjY x9 a1).bind fun x10=>
    if x10=true then
     some (.inr v2)
    else
     zbk a0 a1 c4 (IntKind.i64.wrap (v2+(1:Int)))
   else
    some (.inl ())
def zbT (n:Nat) (a0:(List zaI)) (a1:Str):Option Int:=
 (zbk a0 a1 n (0:Int)).bind fun y3=>
 y3.elim (fun y3a=>
  some (-1:Int)) (fun y3a=>
  some y3a)
def ze9 (n:Nat) (a0:zas) (a1:Str):Option (Int × Bool):=
 (zbT n a0.zbp a1).bind fun x3=>
 some ((max x3 (0:Int)),(decide ((0:Int)<=x3)))
def zfy (a0:zad) (a1:zaj) (a2:Int) (a3:Int):Option zaj:=
 if (a1.e_ == (0:Int))=true then
  some (zaj.mk a2 a3)
 else
  some a1
def zar (a0:zad) (a1:zaj) (a2:Bool) (a3:Int) (a4:Int):Option zaj:=
 if (!a2)=true then
  (zfy a0 a1 a3 a4).bind fun x2=>
  some x2
 else
  some a1
def zf2 (a0:Str):Nat->Int->Option (Unit ⊕ Int)
 | 0,_=>none
 | c4+1,v2=>
   if (decide (v2<(5:Int)))=true then
    (idxL za3 v2).bind fun x9=>
    if (decide (x9.name_=a0))=true then
     some (.inr x9.args_)
    else
     zf2 a0 c4 (IntKind.i64.wrap (v2+(1:Int)))
   else
    some (.inl ())
def zip (n:Nat) (a0:Str):Option Int:=
 (zf2 a0 n (0:Int)).bind fun y3=>
 y3.elim (fun y3a=>
  some (0:Int)) (fun y3a=>
  some y3a)
def zjD (a0:Int):Option Int:=
 if ((andK .u32 a0 (2:Int)) != (0:Int))=true then
  some (2:Int)
 else
  if ((andK .u32 a0 (4:Int)) != (0:Int))=true then
   some (3:Int)
  else
   some (0:Int)
def zcO (n:Nat) (a2:zab):Nat->Int->zad->zaj->Option (zad × zaj)
 | 0,_,_,_=>none
 | c9+1,v5,v6,v7=>
   if (decide (v5<(a2.zax.length:Int)))=true then
    (idxL a2.zax v5).bind fun x14=>
    (ze9 n v6.p_ x14.zbr).bind fun x20=>
    (if (!x20.2)=true then
       (zip n x14.zbr).bind fun x25=>
       (zar v6 v7 (x25 == (0:Int)) (131:Int) x14.At_).bind fun x26=>
       some x26
      else
       (zar v6 v7 false (131:Int) x14.At_).bind fun x29=>
       some x29).bind fun y23=>
    (zjD x14.Num_).bind fun x34=>
    need (v6.f_<0) <|
    need (v6.p_.zbp.length+1<=1073741824) <|
    zcO n a2 c9 (IntKind.i64.wrap (v5+(1:Int))) ({ v6 with p_:=⟨(v6.p_.zbp++[(zaI.mk x14.zbr ((andK .u32 x14.Num_ (1:Int)) != (0:Int)) x34 (0:Int) [] [])])⟩ }:zad) y23
   else
    some (v6,v7)
def zfh (n:Nat) (a0:zad) (a1:zaj) (a2:zab):Option (zad × zaj):=
 (zar a0 a1 (decide ((a2.zax.length:Int)<=(64:Int))) (136:Int) a2.At_).bind fun x2=>
 (zcO n a2 n (0:Int) a0 x2).bind fun y8=>
 need ((0:Int)<=(a2.zax.length:Int)/\(a2.zax.length:Int)<=1073741824) <|
 some (({ y8.1 with zbS:=(List.replicate a2.zax.length []) }:zad),y8.2)
def zcP (x1:zaI):Nat->Int->zad->Option zad
 | 0,_,_=>none
 | c31+1,v28,v29=>
   if (decide (v28<x1.zbd))=true then
    need (v29.zaX.length+1<=1073741824) <|
    zcP x1 c31 (IntKind.i64.wrap (v28+(1:Int))) ({ v29 with zaX:=(v29.zaX++[v28]) }:zad)
   else
    some v29
def zd9 (n:Nat) (a0:zad) (a1:zaj) (a2:Int):Option (zad × zaj):=
 (idxL a0.p_.zbp a2).bind fun x1=>
 (zcP x1 n (0:Int) ({ a0 with f_:=a2,zaX:=[],at_:=a2 }:zad)).bind fun y30=>
 some (y30,a1)
def ziR (a0:Int):Option Bool:=
 (if (decide ((1:Int)<=a0))=true then
    if (decide (a0<=(255:Int)))=true then
     some true
    else
     if (decide ((255:Int)<a0))=true then
      if (decide (a0<=(1024:Int)))=true then
       some ((a0.tmod (4:Int)) == (0:Int))
      else
       some false
     else
      some false
   else
    if (decide ((255:Int)<a0))=true then
     if (decide (a0<=(1024:Int)))=true then
      some ((a0.tmod (4:Int)) == (0:Int))
     else
      some false
    else
     some false).bind fun y1=>
 some y1
def zc1 (a0:zad) (a2:Str):Nat->Int->Option (Unit ⊕ Int)
 | 0,_=>none
 | c5+1,v3=>
   if (decide ((0:Int)<=v3))=true then
    (idxL a0.p_.zbp a0.f_).bind fun x10=>
    (idxL a0.zaX v3).bind fun x13=>
    (idxL x10.zbg x13).bind fun x14=>
    if (decide (x14.zgC=a2))=true then
     some (.inr x13)
    else
     zc1 a0 a2 c5 (IntKind.i64.wrap (v3 - (1:Int)))
   else
    some (.inl ())
def zel (n:Nat) (a0:zad) (a1:zaj) (a2:Str):Option Int:=
 (zc1 a0 a2 n (IntKind.i64.wrap ((a0.zaX.length:Int) - (1:Int)))).bind fun y4=>
 y4.elim (fun y4a=>
  some (-1:Int)) (fun y4a=>
  some y4a)
def zbJ (n:Nat) (a0:zad) (a1:zaj) (a2:zaD) (a3:Int):Option (Int × zad × zaj):=
 (zel n a0 a1 a2.zgC).bind fun x2=>
 (zar a0 a1 (decide (x2<(0:Int))) (131:Int) a3).bind fun x3=>
 (idxL a0.p_.zbp a0.f_).bind fun x6=>
 (zar a0 x3 (decide ((x6.zbg.length:Int)<(250:Int))) (136:Int) a3).bind fun x9=>
 if (x9.e_ != (0:Int))=true then
  some ((-1:Int),a0,x9)
 else
  need (x6.zbg.length+1<=1073741824) <|
  need (a0.zaX.length+1<=1073741824) <|
  some ((x6.zbg.length:Int),({ a0 with p_:=⟨(a0.p_.zbp.set a0.f_.toNat { x6 with zbg:=(x6.zbg++[a2]) })⟩,zaX:=(a0.zaX++[(x6.zbg.length:Int)]) }:zad),x9)
def zcF (n:Nat) (a2:(List zab)):Nat->Int->zad->zaj->Option (zad × zaj)
 | 0,_,_,_=>none
 | c6+1,v2,v3,v4=>
   if (decide (v2<(a2.length:Int)))=true then
    ((idxL a2 v2).bind fun x12=>
      (if ((IntKind.i64.wrap x12.Num_) == (4:Int))=true then
         some (decide ((0:Int)<(x12.zax.length:Int)))
        else
         some false).bind fun y19=>
      if y19=true then
       (idxL x12.zax (0:Int)).bind fun x25=>
       (ziR (IntKind.i64.wrap x25.Num_)).bind fun x31=>
       (zar v3 v4 x31 (136:Int) x12.At_).bind fun x32=>
       (zbJ n v3 x32 (zaD.mk x12.zbr (IntKind.i64.wrap x12.Num_) (IntKind.i64.wrap x25.Num_)) x12.At_).bind fun x35=>
       some (x35.2.1,x35.2.2)
      else
       (zbJ n v3 v4 (zaD.mk x12.zbr (IntKind.i64.wrap x12.Num_) (0:Int)) x12.At_).bind fun x37=>
       some (x37.2.1,x37.2.2)).bind fun y11=>
    zcF n a2 c6 (IntKind.i64.wrap (v2+(1:Int))) y11.1 y11.2
   else
    some (v3,v4)
def zeY (n:Nat) (a0:zad) (a1:zaj) (a2:(List zab)):Option (zad × zaj):=
 (zcF n a2 n (0:Int) a0 a1).bind fun y5=>
 (idxL y5.1.p_.zbp y5.1.f_).bind fun x61=>
 some (({ y5.1 with p_:=⟨(y5.1.p_.zbp.set y5.1.f_.toNat { x61 with zbd:=(x61.zbg.length:Int) })⟩ }:zad),y5.2)
def zdX (a0:zaI):Nat->Int->Int->Option Int
 | 0,_,_=>none
 | c8+1,v5,v6=>
   if (decide (v6<((a0.zbg.take a0.zbd.toNat).length:Int)))=true then
    ((idxL (a0.zbg.take a0.zbd.toNat) v6).bind fun x14=>
      if (x14.zbA == (3:Int))=true then
       some (IntKind.i64.wrap ((IntKind.i64.wrap (v5+(IntKind.i64.wrap ((v5.tmod (2:Int))+(1:Int)))))+(1:Int)))
      else
       some (IntKind.i64.wrap (v5+(1:Int)))).bind fun y13=>
    zdX a0 c8 y13 (IntKind.i64.wrap (v6+(1:Int)))
   else
    some v5
def zgM (n:Nat) (a0:zaI):Option Int:=
 need ((0:Int)<=a0.zbd/\a0.zbd<=(a0.zbg.length:Int)) <|
 (zdX a0 n (0:Int) (0:Int)).bind fun y7=>
 some y7
def zek (n:Nat) (a0:zad) (a1:zaj) (a2:Int) (a3:zab):Option (zad × zaj):=
 (zd9 n a0 a1 a2).bind fun x2=>
 need ((0:Int)<=(max (IntKind.i64.wrap ((a3.zax.length:Int) - (1:Int))) (0:Int))/\(max (IntKind.i64.wrap ((a3.zax.length:Int) - (1:Int))) (0:Int))<=(a3.zax.length:Int)) <|
 (zeY n x2.1 x2.2 (a3.zax.take (max (IntKind.i64.wrap ((a3.zax.length:Int) - (1:Int))) (0:Int)).toNat)).bind fun x4=>
 if (x4.2.e_ == (0:Int))=true then
  ((idxL x4.1.p_.zbp x4.1.f_).bind fun x10=>
    if (!x10.zgk)=true then
     (zar x4.1 x4.2 true (136:Int) a3.At_).bind fun x27=>
     some x27
    else
     (zgM n x10).bind fun x29=>
     (zar x4.1 x4.2 (decide (x29<=(4:Int))) (136:Int) a3.At_).bind fun x30=>
     some x30).bind fun y9=>
  some (x4.1,y9)
 else
  some (x4.1,x4.2)
def zb5 (a0:zad) (a1:zaj) (a2:Int):Option Int:=
 if (decide (a2<(0:Int)))=true then
  some (0:Int)
 else
  (idxL a0.p_.zbp a0.f_).bind fun x2=>
  (idxL x2.zbg a2).bind fun x5=>
  some x5.zbA
def zcy (n:Nat) (a0:zad) (a1:zaj) (a2:zab):Option (Int × zaj):=
 (zel n a0 a1 a2.zbr).bind fun x2=>
 (zar a0 a1 (decide ((0:Int)<=x2)) (130:Int) a2.At_).bind fun x4=>
 some (x2,x4)
def zhA (a0:Int) (a1:Int):Option Int:=
 (if (a0 == a1)=true then
    if (decide ((1:Int)<=a0))=true then
     some (decide (a0<=(3:Int)))
    else
     some false
   else
    some false).bind fun y1=>
 if y1=true then
  some a0
 else
  (if (a0 == (1:Int))=true then
     if (a1 == (2:Int))=true then
      some true
     else
      if (a0 == (2:Int))=true then
       some (a1 == (1:Int))
      else
       some false
    else
     if (a0 == (2:Int))=true then
      some (a1 == (1:Int))
     else
      some false).bind fun y8=>
  if y8=true then
   some (2:Int)
  else
   some (0:Int)
def zbe (a0:zad) (a1:zaj) (a2:zae) (a3:Int):Option (zae × zaj):=
 (zar a0 a1 (a3 != (0:Int)) (132:Int) a2.At_).bind fun x3=>
 some (({ a2 with zcK:=a3 }:zae),x3)
def zdw (a0:zad) (a1:zaj) (a2:zae) (a3:zae) (a4:zae):Option (zae × zaj):=
 (zar a0 a1 (a4.zcK == (1:Int)) (133:Int) a4.At_).bind fun x5=>
 if (a3.zcK == (3:Int))=true then
  (if (decide (a4.Op_=([110,117,109]:Str)))=true then
     (zar a0 x5 (decide (a4.N_<=(63:Int))) (132:Int) a2.At_).bind fun x10=>
     some x10
    else
     (zar a0 x5 false (132:Int) a2.At_).bind fun x12=>
     some x12).bind fun y8=>
  (zbe a0 y8 a2 a3.zcK).bind fun x17=>
  some (x17.1,x17.2)
 else
  (zbe a0 x5 a2 a3.zcK).bind fun x19=>
  some (x19.1,x19.2)
def zhz (a0:Int):Option Int:=
 if (a0 == (1:Int))=true then
  some (2:Int)
 else
  some a0
def zfO (a0:Int):Option Bool:=
 (if (a0 == (1:Int))=true then
    some true
   else
    some (a0 == (2:Int))).bind fun y1=>
 some y1
def ze4 (a0:zad) (a1:zaj) (a2:zae):Option Int:=
 (idxL a2.zax (1:Int)).bind fun x2=>
 (idxL a2.zax (2:Int)).bind fun x3=>
 (zhA x2.zcK x3.zcK).bind fun x4=>
 ((idxL a2.zax (0:Int)).bind fun x17=>
   (zfO x17.zcK).bind fun x18=>
   if (!x18)=true then
    some true
   else
    some (x4 == (0:Int))).bind fun y16=>
 if y16=true then
  some (0:Int)
 else
  (zhz x4).bind fun x30=>
  some x30
def ze3 (zdE:zad->zaj->zab->zae->Option (zae × zaj)) (zds:zad->zaj->zab->zae->Option (zae × zaj)) (zdd:zad->zaj->zab->zae->Option (zae × zaj)) (zcS:zad->zaj->zab->zae->Option (zae × zaj)) (n:Nat) (a0:zad) (a1:zaj) (a2:zab):Option (zae × zaj):=
 if (a2.zbA == (14:Int))=true then
  some ((zae.mk ([110,117,109]:Str) (1:Int) a2.Num_ (-1:Int) [] a2.At_),a1)
 else
  if (a2.zbA == (15:Int))=true then
   (zcy n a0 a1 a2).bind fun x6=>
   (zb5 a0 x6.2 x6.1).bind fun x8=>
   (zar a0 x6.2 (x8 != (4:Int)) (132:Int) a2.At_).bind fun x10=>
   some ((zae.mk ([118,97,114]:Str) x8 (0:Int) x6.1 [] a2.At_),x10)
  else
   if (a2.zbA == (16:Int))=true then
    (zdE a0 a1 a2 (zae.mk [] (0:Int) (0:Int) (-1:Int) [] a2.At_)).bind fun x13=>
    some (x13.1,x13.2)
   else
    if (a2.zbA == (18:Int))=true then
     (zds a0 a1 a2 (zae.mk [] (0:Int) (0:Int) (-1:Int) [] a2.At_)).bind fun x16=>
     some (x16.1,x16.2)
    else
     if (a2.zbA == (19:Int))=true then
      (zdd a0 a1 a2 (zae.mk [] (0:Int) (0:Int) (-1:Int) [] a2.At_)).bind fun x19=>
      some (x19.1,x19.2)
     else
      (zcS a0 a1 a2 (zae.mk [] (0:Int) (0:Int) (-1:Int) [] a2.At_)).bind fun x21=>
      some (x21.1,x21.2)
def ze1 (zbj:zad->zaj->zab->Option (zae × zaj)) (n:Nat) (a0:zad) (a1:zaj) (a2:zab) (a3:zae):Option (zae × zaj):=
 (idxL a2.zax (0:Int)).bind fun x4=>
 (zbj a0 a1 x4).bind fun x5=>
 (zcy n a0 x5.2 a2).bind fun x13=>
 (zb5 a0 x13.2 x13.1).bind fun x15=>
 (zar a0 x13.2 (x15 == (4:Int)) (132:Int) a2.At_).bind fun x16=>
 (zar a0 x16 (x5.1.zcK == (1:Int)) (133:Int) x5.1.At_).bind fun x19=>
 (if (x19.e_ == (0:Int))=true then
    some (decide (x5.1.Op_=([110,117,109]:Str)))
   else
    some false).bind fun y21=>
 if y21=true then
  (idxL a0.p_.zbp a0.f_).bind fun x27=>
  (idxL x27.zbg x13.1).bind fun x30=>
  (zar a0 x19 (decide ((IntKind.i64.wrap x5.1.N_)<x30.zf8)) (137:Int) x5.1.At_).bind fun x31=>
  some (({ a3 with Op_:=([105,110,100,101,120]:Str),zcK:=(2:Int),Var_:=x13.1,zax:=[x5.1] }:zae),x31)
 else
  some (({ a3 with Op_:=([105,110,100,101,120]:Str),zcK:=(2:Int),Var_:=x13.1,zax:=[x5.1] }:zae),x19)
def zeJ (zbh:zad->zaj->(List zab)->Option ((List zae) × zaj)) (n:Nat) (a0:zad) (a1:zaj) (a2:zab) (a3:zae):Option (zae × zaj):=
 (zbh a0 a1 a2.zax).bind fun x4=>
 if (decide (a2.zbr=([45]:Str)))=true then
  (idxL x4.1 (0:Int)).bind fun x7=>
  some (({ a3 with Op_:=([110,101,103]:Str),zcK:=x7.zcK,zax:=x4.1 }:zae),x4.2)
 else
  (idxL x4.1 (0:Int)).bind fun x13=>
  some (({ a3 with Op_:=([110,111,116]:Str),zcK:=x13.zcK,zax:=x4.1 }:zae),x4.2)
def zew (zbh:zad->zaj->(List zab)->Option ((List zae) × zaj)) (n:Nat) (a0:zad) (a1:zaj) (a2:zab) (a3:zae):Option (zae × zaj):=
 (zbh a0 a1 a2.zax).bind fun x4=>
 (idxL x4.1 (0:Int)).bind fun x6=>
 (idxL x4.1 (1:Int)).bind fun x9=>
 (zhA x6.zcK x9.zcK).bind fun x20=>
 if (decide (a2.zbr=([47]:Str)))=true then
  (zar a0 x4.2 (x6.zcK == (1:Int)) (133:Int) x6.At_).bind fun x23=>
  (zar a0 x23 (x9.zcK == (1:Int)) (133:Int) x9.At_).bind fun x25=>
  (zbe a0 x25 ({ a3 with Op_:=a2.zbr,zax:=x4.1 }:zae) (1:Int)).bind fun x27=>
  some (x27.1,x27.2)
 else
  if (decide (a2.zbr=([37]:Str)))=true then
   (zar a0 x4.2 (x6.zcK == (1:Int)) (133:Int) x6.At_).bind fun x30=>
   (zar a0 x30 (x9.zcK == (1:Int)) (133:Int) x9.At_).bind fun x32=>
   (zbe a0 x32 ({ a3 with Op_:=a2.zbr,zax:=x4.1 }:zae) (1:Int)).bind fun x34=>
   some (x34.1,x34.2)
  else
   if (decide (a2.zbr=([60,60]:Str)))=true then
    (zdw a0 x4.2 ({ a3 with Op_:=a2.zbr,zax:=x4.1 }:zae) x6 x9).bind fun x37=>
    some (x37.1,x37.2)
   else
    if (decide (a2.zbr=([62,62]:Str)))=true then
     (zdw a0 x4.2 ({ a3 with Op_:=a2.zbr,zax:=x4.1 }:zae) x6 x9).bind fun x40=>
     some (x40.1,x40.2)
    else
     if (decide (a2.zbr=([60,60,60]:Str)))=true then
      (zdw a0 x4.2 ({ a3 with Op_:=a2.zbr,zax:=x4.1 }:zae) x6 x9).bind fun x43=>
      some (x43.1,x43.2)
     else
      if (decide (a2.zbr=([42]:Str)))=true then
       (zar a0 x4.2 (x20 != (3:Int)) (132:Int) a2.At_).bind fun x46=>
       (zbe a0 x46 ({ a3 with Op_:=a2.zbr,zax:=x4.1 }:zae) x20).bind fun x48=>
       some (x48.1,x48.2)
      else
       if (decide (a2.zbr=([61,61]:Str)))=true then
        if (x20 == (3:Int))=true then
         (zbe a0 x4.2 ({ a3 with Op_:=a2.zbr,zax:=x4.1 }:zae) (2:Int)).bind fun x52=>
         some (x52.1,x52.2)
        else
         (zbe a0 x4.2 ({ a3 with Op_:=a2.zbr,zax:=x4.1 }:zae) x20).bind fun x54=>
         some (x54.1,x54.2)
       else
        if (decide (a2.zbr=([60]:Str)))=true then
         if (x20 == (3:Int))=true then
          (zbe a0 x4.2 ({ a3 with Op_:=a2.zbr,zax:=x4.1 }:zae) (2:Int)).bind fun x58=>
          some (x58.1,x58.2)
         else
          (zbe a0 x4.2 ({ a3 with Op_:=a2.zbr,zax:=x4.1 }:zae) x20).bind fun x60=>
          some (x60.1,x60.2)
        else
         (zbe a0 x4.2 ({ a3 with Op_:=a2.zbr,zax:=x4.1 }:zae) x20).bind fun x62=>
         some (x62.1,x62.2)
def zee (zbh:zad->zaj->(List zab)->Option ((List zae) × zaj)) (n:Nat) (a0:zad) (a1:zaj) (a2:zab) (a3:zae):Option (zae × zaj):=
 (zip n a2.zbr).bind fun x4=>
 (zar a0 a1 (decide ((0:Int)<x4)) (130:Int) a2.At_).bind fun x6=>
 (zar a0 x6 ((a2.zax.length:Int) == x4) (136:Int) a2.At_).bind fun x8=>
 (zbh a0 x8 a2.zax).bind fun x10=>
 if (x10.2.e_ != (0:Int))=true then
  some (({ a3 with Op_:=a2.zbr,zax:=x10.1 }:zae),x10.2)
 else
  (idxL x10.1 (0:Int)).bind fun x13=>
  if (decide (a2.zbr=([115,101,108,101,99,116]:Str)))=true then
   (ze4 a0 x10.2 ({ a3 with Op_:=a2.zbr,zax:=x10.1 }:zae)).bind fun x20=>
   (zbe a0 x10.2 ({ a3 with Op_:=a2.zbr,zax:=x10.1 }:zae) x20).bind fun x21=>
   some (x21.1,x21.2)
  else
   if (decide (a2.zbr=([108,111,110,103]:Str)))=true then
    (zfO x13.zcK).bind fun x25=>
    (zar a0 x10.2 x25 (132:Int) a2.At_).bind fun x26=>
    (zbe a0 x26 ({ a3 with Op_:=a2.zbr,zax:=x10.1 }:zae) (3:Int)).bind fun x29=>
    some (x29.1,x29.2)
   else
    if (decide (a2.zbr=([119,105,100,101]:Str)))=true then
     ((zfO x13.zcK).bind fun x33=>
       if x33=true then
        (idxL x10.1 (1:Int)).bind fun x36=>
        (zfO x36.zcK).bind fun x37=>
        (zar a0 x10.2 x37 (132:Int) a2.At_).bind fun x38=>
        some x38
       else
        (zar a0 x10.2 false (132:Int) a2.At_).bind fun x46=>
        some x46).bind fun y32=>
     (zbe a0 y32 ({ a3 with Op_:=a2.zbr,zax:=x10.1 }:zae) (3:Int)).bind fun x51=>
     some (x51.1,x51.2)
    else
     (zar a0 x10.2 (x13.zcK == (3:Int)) (132:Int) a2.At_).bind fun x53=>
     (zbe a0 x53 ({ a3 with Op_:=a2.zbr,zax:=x10.1 }:zae) (2:Int)).bind fun x55=>
     some (x55.1,x55.2)
def zdm (zbj:zad->zaj->zab->Option (zae × zaj)) (a2:(List zab)) (a0:zad):Nat->(List zae)->Int->zaj->Option ((List zae) × zaj)
 | 0,_,_,_=>none
 | c6+1,v2,v3,v4=>
   if (decide (v3<(a2.length:Int)))=true then
    (idxL a2 v3).bind fun x11=>
    (zbj a0 v4 x11).bind fun x17=>
    need (v2.length+[x17.1].length<=1073741824) <|
    zdm zbj a2 a0 c6 (v2++[x17.1]) (IntKind.i64.wrap (v3+(1:Int))) x17.2
   else
    some (v2,v4)
def zfn (zbj:zad->zaj->zab->Option (zae × zaj)) (n:Nat) (a0:zad) (a1:zaj) (a2:(List zab)):Option ((List zae) × zaj):=
 (zdm zbj a2 a0 n [] (0:Int) a1).bind fun y5=>
 some (y5.1,y5.2)
def za5:Nat->(zad->zaj->zab->Option (zae × zaj)) × (zad->zaj->zab->zae->Option (zae × zaj)) × (zad->zaj->zab->zae->Option (zae × zaj)) × (zad->zaj->zab->zae->Option (zae × zaj)) × (zad->zaj->zab->zae->Option (zae × zaj)) × (zad->zaj->(List zab)->Option ((List zae) × zaj))
 | 0=>(fun _ _ _=>none,fun _ _ _ _=>none,fun _ _ _ _=>none,fun _ _ _ _=>none,fun _ _ _ _=>none,fun _ _ _=>none)
 | n+1=>(ze3 (za5 n).2.1 (za5 n).2.2.1 (za5 n).2.2.2.1 (za5 n).2.2.2.2.1 n,ze1 (za5 n).1 n,zeJ (za5 n).2.2.2.2.2 n,zew (za5 n).2.2.2.2.2 n,zee (za5 n).2.2.2.2.2 n,zfn (za5 n).1 n)
def zcj (n:Nat):zad->zaj->zab->Option (zae × zaj):=(za5 n).1
def zjX (n:Nat):zad->zaj->zab->zae->Option (zae × zaj):=(za5 n).2.1
def zjy (n:Nat):zad->zaj->zab->zae->Option (zae × zaj):=(za5 n).2.2.1
def zjh (n:Nat):zad->zaj->zab->zae->Option (zae × zaj):=(za5 n).2.2.2.1
def ziJ (n:Nat):zad->zaj->zab->zae->Option (zae × zaj):=(za5 n).2.2.2.2.1
def zkn (n:Nat):zad->zaj->(List zab)->Option ((List zae) × zaj):=(za5 n).2.2.2.2.2
def zb4 (n:Nat) (a0:zad) (a1:zaj) (a2:zab):Option (zae × zaj):=
 (zcj n a0 a1 a2).bind fun x3=>
 (zar a0 x3.2 (x3.1.zcK == (1:Int)) (133:Int) a2.At_).bind fun x6=>
 some (x3.1,x6)
def zev (n:Nat) (a0:zad) (a1:zaj) (a2:zab):Option (Int × zaj):=
 (ze9 n a0.p_ a2.zbr).bind fun x2=>
 (zar a0 a1 x2.2 (130:Int) a2.At_).bind fun x5=>
 some (x2.1,x5)
def zeX (a0:zad) (a1:zaj) (a2:Int):Option (List zaD):=
 (idxL a0.p_.zbp a2).bind fun x1=>
 need ((0:Int)<=x1.zbd/\x1.zbd<=(x1.zbg.length:Int)) <|
 some (x1.zbg.take (x1.zbd.toNat))
def zgY (a0:Int) (a1:Int):Option Bool:=
 (if (a0 == a1)=true then
    some true
   else
    if (a0 == (1:Int))=true then
     some (a1 == (2:Int))
    else
     some false).bind fun y1=>
 some y1
def zfm (n:Nat) (a0:zad) (a1:zaj) (a2:zab) (a3:Int):Option (zae × zaj):=
 (zar a0 a1 (a2.zbA == (15:Int)) (132:Int) a2.At_).bind fun x3=>
 (zcy n a0 x3 a2).bind fun x5=>
 ((zb5 a0 x5.2 x5.1).bind fun x8=>
   if (x8 == (4:Int))=true then
    (idxL a0.p_.zbp a0.f_).bind fun x11=>
    (idxL x11.zbg (max x5.1 (0:Int))).bind fun x14=>
    (zar a0 x5.2 (x14.zf8 == a3) (132:Int) a2.At_).bind fun x15=>
    some x15
   else
    (zar a0 x5.2 false (132:Int) a2.At_).bind fun x40=>
    some x40).bind fun y7=>
 some ((zae.mk ([118,97,114]:Str) (4:Int) (0:Int) x5.1 [] a2.At_),y7)
def zey (n:Nat) (a0:zad) (a1:zaj) (a2:zab) (a3:zaD):Option (zae × zaj):=
 if (a3.zbA == (4:Int))=true then
  (zfm n a0 a1 a2 a3.zf8).bind fun x5=>
  some (x5.1,x5.2)
 else
  if (a3.zbA == (1:Int))=true then
   (zb4 n a0 a1 a2).bind fun x8=>
   some (x8.1,x8.2)
  else
   (zcj n a0 a1 a2).bind fun x10=>
   (zgY x10.1.zcK a3.zbA).bind fun x13=>
   (zar a0 x10.2 x13 (132:Int) a2.At_).bind fun x14=>
   some (x10.1,x14)
def zc2 (n:Nat) (a2:zab) (x20:(List zaD)) (a0:zad) (x7:(List Int)) (x4:(Int × zaj)):Nat->Int->zaj->zaf->Option (zaj × zaf)
 | 0,_,_,_=>none
 | c29+1,v25,v26,v27=>
   if (decide (v25<(a2.zax.length:Int)))=true then
    (idxL a2.zax v25).bind fun x34=>
    if (v26.e_ != (0:Int))=true then
     some (v26,v27)
    else
     (idxL x20 v25).bind fun x41=>
     (zey n ({ a0 with zbS:=(a0.zbS.set a0.at_.toNat (x7++[x4.1])) }:zad) v26 x34 x41).bind fun x42=>
     need (v27.zax.length+[x42.1].length<=1073741824) <|
     zc2 n a2 x20 a0 x7 x4 c29 (IntKind.i64.wrap (v25+(1:Int))) x42.2 ({ v27 with zax:=(v27.zax++[x42.1]) }:zaf)
   else
    some (v26,v27)
def zc7 (n:Nat) (a0:zad) (a1:zaj) (a2:zab) (a3:zaf) (a4:Int):Option (zaf × zad × zaj):=
 (zev n a0 a1 a2).bind fun x4=>
 if (x4.2.e_ != (0:Int))=true then
  some (({ a3 with Op_:=([99,97,108,108]:Str),Var_:=a4,zhh:=x4.1,zax:=[] }:zaf),a0,x4.2)
 else
  (idxL a0.zbS a0.at_).bind fun x7=>
  need (x7.length+1<=1073741824) <|
  (zeX ({ a0 with zbS:=(a0.zbS.set a0.at_.toNat (x7++[x4.1])) }:zad) x4.2 x4.1).bind fun x20=>
  (zar ({ a0 with zbS:=(a0.zbS.set a0.at_.toNat (x7++[x4.1])) }:zad) x4.2 ((a2.zax.length:Int) == (x20.length:Int)) (136:Int) a2.At_).bind fun x22=>
  (zc2 n a2 x20 a0 x7 x4 n (0:Int) x22 ({ a3 with Op_:=([99,97,108,108]:Str),Var_:=a4,zhh:=x4.1,zax:=[] }:zaf)).bind fun y28=>
  some (y28.2,({ a0 with zbS:=(a0.zbS.set a0.at_.toNat (x7++[x4.1])) }:zad),y28.1)
def zdl (n:Nat) (a0:zad) (a1:zaj) (a2:zab):Option Bool:=
 (if (a2.zbA == (17:Int))=true then
    (zip n a2.zbr).bind fun x4=>
    some (x4 == (0:Int))
   else
    some false).bind fun y2=>
 some y2
def zfj (n:Nat) (a0:zad) (a1:zaj) (a2:zab) (a3:zaf):Option (zaf × zad × zaj):=
 (idxL a2.zax (0:Int)).bind fun x4=>
 (zdl n a0 a1 x4).bind fun x5=>
 if x5=true then
  (zc7 n a0 a1 x4 ({ a3 with zax:=[] }:zaf) (-1:Int)).bind fun x13=>
  if (x13.2.2.e_ != (0:Int))=true then
   some (({ x13.1 with At_:=a2.At_ }:zaf),x13.2.1,x13.2.2)
  else
   (idxL x13.2.1.p_.zbp x13.1.zhh).bind fun x16=>
   (zar x13.2.1 x13.2.2 (x16.zct != (0:Int)) (132:Int) a2.At_).bind fun x30=>
   (zbJ n x13.2.1 x30 (zaD.mk a2.zbr x16.zct (0:Int)) a2.At_).bind fun x32=>
   some (({ x13.1 with Var_:=x32.1,At_:=a2.At_ }:zaf),x32.2.1,x32.2.2)
 else
  (zcj n a0 a1 x4).bind fun x34=>
  (zhz x34.1.zcK).bind fun x37=>
  (zbJ n a0 x34.2 (zaD.mk a2.zbr x37 (0:Int)) a2.At_).bind fun x38=>
  some (({ a3 with Op_:=([118,97,114]:Str),Var_:=x38.1,zax:=[x34.1] }:zaf),x38.2.1,x38.2.2)
def zeM (n:Nat) (a0:zad) (a1:zaj) (a2:zab):Option (Int × zaj):=
 (zcy n a0 a1 a2).bind fun x2=>
 (zb5 a0 x2.2 x2.1).bind fun x4=>
 (if (x4 == (2:Int))=true then
    (zar a0 x2.2 true (132:Int) a2.At_).bind fun x8=>
    some x8
   else
    (zar a0 x2.2 (x4 == (3:Int)) (132:Int) a2.At_).bind fun x10=>
    some x10).bind fun y6=>
 some (x2.1,y6)
def zfH (n:Nat) (a0:zad) (a1:zaj) (a2:zab) (a3:zaf):Option (zaf × zad × zaj):=
 (zeM n a0 a1 a2).bind fun x4=>
 (idxL a2.zax (0:Int)).bind fun x6=>
 (zdl n a0 x4.2 x6).bind fun x7=>
 if x7=true then
  (zc7 n a0 x4.2 x6 ({ a3 with zax:=[] }:zaf) x4.1).bind fun x15=>
  if (x15.2.2.e_ == (0:Int))=true then
   (zb5 x15.2.1 x15.2.2 x4.1).bind fun x18=>
   (idxL x15.2.1.p_.zbp x15.1.zhh).bind fun x19=>
   (zar x15.2.1 x15.2.2 (x19.zct == x18) (132:Int) a2.At_).bind fun x21=>
   some (({ x15.1 with At_:=a2.At_ }:zaf),x15.2.1,x21)
  else
   some (({ x15.1 with At_:=a2.At_ }:zaf),x15.2.1,x15.2.2)
 else
  (zcj n a0 x4.2 x6).bind fun x36=>
  (zb5 a0 x36.2 x4.1).bind fun x39=>
  (zgY x36.1.zcK x39).bind fun x40=>
  (zar a0 x36.2 x40 (132:Int) a2.At_).bind fun x41=>
  some (({ a3 with Op_:=([115,101,116]:Str),Var_:=x4.1,zax:=[x36.1] }:zaf),a0,x41)
def zfi (n:Nat) (a0:zad) (a1:zaj) (a2:zab) (a3:Int):Option (zae × zaj):=
 (zb4 n a0 a1 a2).bind fun x3=>
 (if (x3.2.e_ == (0:Int))=true then
    some (decide (x3.1.Op_=([110,117,109]:Str)))
   else
    some false).bind fun y6=>
 if y6=true then
  (idxL a0.p_.zbp a0.f_).bind fun x12=>
  (idxL x12.zbg a3).bind fun x15=>
  (zar a0 x3.2 (decide ((IntKind.i64.wrap x3.1.N_)<x15.zf8)) (137:Int) a2.At_).bind fun x16=>
  some (x3.1,x16)
 else
  some (x3.1,x3.2)
def zfI (n:Nat) (a0:zad) (a1:zaj) (a2:zab) (a3:zaf):Option (zaf × zaj):=
 (zcy n a0 a1 a2).bind fun x4=>
 (zb5 a0 x4.2 x4.1).bind fun x6=>
 (zar a0 x4.2 (x6 == (4:Int)) (132:Int) a2.At_).bind fun x7=>
 (idxL a2.zax (0:Int)).bind fun x10=>
 (zfi n a0 x7 x10 x4.1).bind fun x11=>
 (idxL a2.zax (1:Int)).bind fun x19=>
 (zcj n a0 x11.2 x19).bind fun x20=>
 (zgY x20.1.zcK (2:Int)).bind fun x28=>
 (zar a0 x20.2 x28 (132:Int) a2.At_).bind fun x29=>
 some (({ a3 with Op_:=([112,117,116]:Str),Var_:=x4.1,zax:=[x11.1,x20.1] }:zaf),x29)
def zfz (n:Nat) (a0:zad) (a1:zaj) (a2:zab) (a3:zaf) (a4:Bool):Option (zaf × zad × zaj):=
 (if a4=true then
    (idxL a0.p_.zbp a0.f_).bind fun x6=>
    (zar a0 a1 (x6.zct != (0:Int)) (135:Int) a2.At_).bind fun x9=>
    some x9
   else
    (zar a0 a1 false (135:Int) a2.At_).bind fun x24=>
    some x24).bind fun y4=>
 (if (y4.e_ == (0:Int))=true then
    (idxL a2.zax (0:Int)).bind fun x31=>
    (zdl n a0 y4 x31).bind fun x32=>
    some x32
   else
    some false).bind fun y29=>
 if y29=true then
  (idxL a2.zax (0:Int)).bind fun x43=>
  (zc7 n a0 y4 x43 ({ a3 with zax:=[] }:zaf) (-2:Int)).bind fun x44=>
  if (x44.2.2.e_ == (0:Int))=true then
   (idxL x44.2.1.p_.zbp x44.1.zhh).bind fun x52=>
   (idxL x44.2.1.p_.zbp x44.2.1.f_).bind fun x54=>
   (zar x44.2.1 x44.2.2 (x52.zct == x54.zct) (132:Int) a2.At_).bind fun x57=>
   some (({ x44.1 with At_:=a2.At_ }:zaf),x44.2.1,x57)
  else
   some (({ x44.1 with At_:=a2.At_ }:zaf),x44.2.1,x44.2.2)
 else
  (idxL a2.zax (0:Int)).bind fun x83=>
  (zcj n a0 y4 x83).bind fun x84=>
  (idxL a0.p_.zbp a0.f_).bind fun x92=>
  (zgY x84.1.zcK x92.zct).bind fun x95=>
  (zar a0 x84.2 x95 (132:Int) a2.At_).bind fun x96=>
  some (({ a3 with Op_:=([114,101,116,117,114,110]:Str),zax:=[x84.1] }:zaf),a0,x96)
def zcQ (zbt:zad->zaj->zab->Bool->Option (zaf × zad × zaj)) (a2:zab) (a3:Bool):Nat->(List zaf)->Int->zad->zaj->Option ((List zaf) × zad × zaj)
 | 0,_,_,_,_=>none
 | c9+1,v4,v5,v6,v7=>
   if (decide (v5<(a2.zax.length:Int)))=true then
    (idxL a2.zax v5).bind fun x14=>
    if (v7.e_ != (0:Int))=true then
     some (v4,v6,v7)
    else
     (if a3=true then
        (zbt v6 v7 x14 (v5 == (IntKind.i64.wrap ((a2.zax.length:Int) - (1:Int))))).bind fun x28=>
        need (v4.length+[x28.1].length<=1073741824) <|
        some ((v4++[x28.1]),x28.2.1,x28.2.2)
       else
        (zbt v6 v7 x14 false).bind fun x33=>
        need (v4.length+[x33.1].length<=1073741824) <|
        some ((v4++[x33.1]),x33.2.1,x33.2.2)).bind fun y26=>
     zcQ zbt a2 a3 c9 y26.1 (IntKind.i64.wrap (v5+(1:Int))) y26.2.1 y26.2.2
   else
    some (v4,v6,v7)
def zeN (zbt:zad->zaj->zab->Bool->Option (zaf × zad × zaj)) (n:Nat) (a0:zad) (a1:zaj) (a2:zab) (a3:Bool):Option ((List zaf) × zad × zaj):=
 (zcQ zbt a2 a3 n [] (0:Int) a0 a1).bind fun y8=>
 need ((0:Int)<=(a0.zaX.length:Int)/\(a0.zaX.length:Int)<=(y8.2.1.zaX.length:Int)) <|
 some (y8.1,({ y8.2.1 with zaX:=(y8.2.1.zaX.take (a0.zaX.length)) }:zad),y8.2.2)
def zck (za6:zad->zaj->zab->Bool->Option ((List zaf) × zad × zaj)) (a2:zab):Nat->Int->zad->zaj->zaf->Option (zad × zaj × zaf)
 | 0,_,_,_,_=>none
 | c59+1,v54,v55,v56,v57=>
   if (decide (v54<((a2.zax.drop 2).length:Int)))=true then
    (idxL (a2.zax.drop 2) v54).bind fun x64=>
    (za6 v55 v56 x64 false).bind fun x70=>
    zck za6 a2 c59 (IntKind.i64.wrap (v54+(1:Int))) x70.2.1 x70.2.2 ({ v57 with zis:=x70.1 }:zaf)
   else
    some (v55,v56,v57)
def zdU (za6:zad->zaj->zab->Bool->Option ((List zaf) × zad × zaj)) (zdD:zad->zaj->zab->zaf->Option (zaf × zad × zaj)) (n:Nat) (a0:zad) (a1:zaj) (a2:zab) (a3:Bool):Option (zaf × zad × zaj):=
 if (a2.zbA == (5:Int))=true then
  (idxL a2.zax (0:Int)).bind fun x5=>
  (zb4 n a0 a1 x5).bind fun x6=>
  (zbJ n a0 x6.2 (zaD.mk a2.zbr (1:Int) (0:Int)) a2.At_).bind fun x13=>
  some ((zaf.mk ([108,101,116]:Str) x13.1 (0:Int) [x6.1] [] [] a2.At_),x13.2.1,x13.2.2)
 else
  if (a2.zbA == (6:Int))=true then
   (zfj n a0 a1 a2 (zaf.mk [] (-1:Int) (0:Int) [] [] [] a2.At_)).bind fun x16=>
   some (x16.1,x16.2.1,x16.2.2)
  else
   if (a2.zbA == (7:Int))=true then
    (ziR (IntKind.i64.wrap (min a2.Num_ (1025:Int)))).bind fun x19=>
    (zar a0 a1 x19 (136:Int) a2.At_).bind fun x20=>
    (zbJ n a0 x20 (zaD.mk a2.zbr (4:Int) (IntKind.i64.wrap a2.Num_)) a2.At_).bind fun x23=>
    some ((zaf.mk ([97,114,114]:Str) x23.1 (0:Int) [] [] [] a2.At_),x23.2.1,x23.2.2)
   else
    if (a2.zbA == (8:Int))=true then
     (zfH n a0 a1 a2 (zaf.mk [] (-1:Int) (0:Int) [] [] [] a2.At_)).bind fun x26=>
     some (x26.1,x26.2.1,x26.2.2)
    else
     if (a2.zbA == (9:Int))=true then
      (zfI n a0 a1 a2 (zaf.mk [] (-1:Int) (0:Int) [] [] [] a2.At_)).bind fun x29=>
      some (x29.1,a0,x29.2)
     else
      if (a2.zbA == (10:Int))=true then
       (zc7 n a0 a1 a2 (zaf.mk [] (-1:Int) (0:Int) [] [] [] a2.At_) (-1:Int)).bind fun x32=>
       some (x32.1,x32.2.1,x32.2.2)
      else
       if (a2.zbA == (11:Int))=true then
        (idxL a2.zax (0:Int)).bind fun x35=>
        (zb4 n a0 a1 x35).bind fun x36=>
        (idxL a2.zax (1:Int)).bind fun x43=>
        (za6 a0 x36.2 x43 false).bind fun x44=>
        need ((0:Int)<=(2:Int)/\(2:Int)<=(a2.zax.length:Int)) <|
        (zck za6 a2 n (0:Int) x44.2.1 x44.2.2 (zaf.mk ([105,102]:Str) (-1:Int) (0:Int) [x36.1] x44.1 [] a2.At_)).bind fun y58=>
        some (y58.2.2,y58.1,y58.2.1)
       else
        if (a2.zbA == (12:Int))=true then
         (zdD a0 a1 a2 (zaf.mk [] (-1:Int) (0:Int) [] [] [] a2.At_)).bind fun x73=>
         some (x73.1,x73.2.1,x73.2.2)
        else
         if (a2.zbA == (13:Int))=true then
          (zfz n a0 a1 a2 (zaf.mk [] (-1:Int) (0:Int) [] [] [] a2.At_) a3).bind fun x76=>
          some (x76.1,x76.2.1,x76.2.2)
         else
          some ((zaf.mk [] (-1:Int) (0:Int) [] [] [] a2.At_),a0,a1)
def zeZ (za6:zad->zaj->zab->Bool->Option ((List zaf) × zad × zaj)) (n:Nat) (a0:zad) (a1:zaj) (a2:zab) (a3:zaf):Option (zaf × zad × zaj):=
 (idxL a2.zax (0:Int)).bind fun x4=>
 (zb4 n a0 a1 x4).bind fun x5=>
 (idxL a2.zax (1:Int)).bind fun x6=>
 (zb4 n a0 x5.2 x6).bind fun x7=>
 (zbJ n a0 x7.2 (zaD.mk a2.zbr (1:Int) (0:Int)) a2.At_).bind fun x21=>
 (idxL a2.zax (2:Int)).bind fun x23=>
 (za6 x21.2.1 x21.2.2 x23 false).bind fun x24=>
 need ((0:Int)<=(min (a0.zaX.length:Int) (x24.2.1.zaX.length:Int))/\(min (a0.zaX.length:Int) (x24.2.1.zaX.length:Int))<=(x24.2.1.zaX.length:Int)) <|
 some (({ a3 with Op_:=([102,111,114]:Str),Var_:=x21.1,zax:=[x5.1,x7.1],zdB:=x24.1 }:zaf),({ x24.2.1 with zaX:=(x24.2.1.zaX.take ((min (a0.zaX.length:Int) (x24.2.1.zaX.length:Int)).toNat)) }:zad),x24.2.2)
def zb0:Nat->(zad->zaj->zab->Bool->Option ((List zaf) × zad × zaj)) × (zad->zaj->zab->Bool->Option (zaf × zad × zaj)) × (zad->zaj->zab->zaf->Option (zaf × zad × zaj))
 | 0=>(fun _ _ _ _=>none,fun _ _ _ _=>none,fun _ _ _ _=>none)
 | n+1=>(zeN (zb0 n).2.1 n,zdU (zb0 n).1 (zb0 n).2.2 n,zeZ (zb0 n).1 n)
def zfl (n:Nat):zad->zaj->zab->Bool->Option ((List zaf) × zad × zaj):=(zb0 n).1
def zhJ (n:Nat):zad->zaj->zab->Bool->Option (zaf × zad × zaj):=(zb0 n).2.1
def zjW (n:Nat):zad->zaj->zab->zaf->Option (zaf × zad × zaj):=(zb0 n).2.2
def ziS (a0:zab):Option Bool:=
 (if (decide ((0:Int)<(a0.zax.length:Int)))=true then
    (idxL a0.zax (IntKind.i64.wrap ((a0.zax.length:Int) - (1:Int)))).bind fun x4=>
    some (x4.zbA == (13:Int))
   else
    some false).bind fun y2=>
 some y2
def zc4 (n:Nat) (a3:zab):Nat->Int->zad->zaj->Option (zad × zaj)
 | 0,_,_,_=>none
 | c11+1,v7,v8,v9=>
   if (decide (v7<((a3.zax.drop (max (IntKind.i64.wrap ((a3.zax.length:Int) - (1:Int))) (0:Int)).toNat).length:Int)))=true then
    (idxL (a3.zax.drop (max (IntKind.i64.wrap ((a3.zax.length:Int) - (1:Int))) (0:Int)).toNat) v7).bind fun x16=>
    (idxL v8.p_.zbp v8.f_).bind fun x22=>
    (zfl n v8 v9 x16 true).bind fun x25=>
    (idxL x25.2.1.p_.zbp v8.f_).bind fun x26=>
    ((idxL (x25.2.1.p_.zbp.set v8.f_.toNat { x26 with zdB:=x25.1 }) v8.f_).bind fun x56=>
      if (x56.zct == (0:Int))=true then
       (zar ({ x25.2.1 with p_:=⟨(x25.2.1.p_.zbp.set v8.f_.toNat { x26 with zdB:=x25.1 })⟩ }:zad) x25.2.2 true (135:Int) a3.At_).bind fun x71=>
       some x71
      else
       (ziS x16).bind fun x73=>
       (zar ({ x25.2.1 with p_:=⟨(x25.2.1.p_.zbp.set v8.f_.toNat { x26 with zdB:=x25.1 })⟩ }:zad) x25.2.2 x73 (135:Int) a3.At_).bind fun x74=>
       some x74).bind fun y55=>
    zc4 n a3 c11 (IntKind.i64.wrap (v7+(1:Int))) ({ x25.2.1 with p_:=⟨(x25.2.1.p_.zbp.set v8.f_.toNat { x26 with zdB:=x25.1 })⟩ }:zad) y55
   else
    some (v8,v9)
def zem (n:Nat) (a0:zad) (a1:zaj) (a2:Int) (a3:zab):Option (zad × zaj):=
 (zd9 n a0 a1 a2).bind fun x2=>
 need ((0:Int)<=(max (IntKind.i64.wrap ((a3.zax.length:Int) - (1:Int))) (0:Int))/\(max (IntKind.i64.wrap ((a3.zax.length:Int) - (1:Int))) (0:Int))<=(a3.zax.length:Int)) <|
 (zc4 n a3 n (0:Int) x2.1 x2.2).bind fun y10=>
 some (y10.1,y10.2)
end Go.Proofs.YtldnmmnnohnpkaaGreatDoor.Abs
namespace Go.Proofs.YtldnmmnnohnpkaaGreatDoor.Abs
set_option linter.unusedVariables false
open Go.RowKit
def zh1 (rec_:Int->List Int->Option (Bool × List Int)) (to:Int):List Int->List Int->Option (Bool × List Int)
 | [],seen=>some (false,seen)
 | k::ks,seen=>
   if (k == to)=true then some (true,seen)
   else
    (idxL seen k).bind fun s=>
    if (IntKind.i64.wrap (s+(1:Int)) == (1:Int))=true then
     (rec_ k (seen.set k.toNat (IntKind.i64.wrap (s+(1:Int))))).bind fun r=>
     if r.1=true then some (true,r.2) else zh1 rec_ to ks r.2
    else zh1 rec_ to ks (seen.set k.toNat (IntKind.i64.wrap (s+(1:Int))))
def zeL:Nat->zad->Int->Int->List Int->Option (Bool × List Int)
 | 0,_,_,_,_=>none
 | n+1,c,fr,to,seen=>(idxL c.zbS fr).bind fun l=>need (l.length<=1073741824) <| zh1 (fun k s=>zeL n c k to s) to l seen
abbrev Look:=Int->zab->zad->zaj->Option (zad × zaj)
def zio (look:Look):List zab->Nat->zad->zaj->Option (zad × zaj)
 | [],_,c,w=>some (c,w)
 | f::l,i,c,w=>if (w.e_ == (0:Int))=true then (look i f c w).bind fun r=>zio look l (i+1) r.1 r.2 else zio look l (i+1) c w
def zkr (nodes:List zab):List Look->zad->zaj->Option (zad × zaj)
 | [],c,w=>some (c,w)
 | look::ls,c,w=>(zio look nodes 0 c w).bind fun r=>zkr nodes ls r.1 r.2
def zjF (n len:Nat) (c:zad):List zab->Nat->zaj->Option zaj
 | [],_,w=>some w
 | f::l,i,w=>if (w.e_ == (0:Int))=true then (zeL n c i i (List.replicate len 0)).bind fun r=>(zar c w (!r.1) (134:Int) f.At_).bind fun w'=>zjF n len c l (i+1) w' else zjF n len c l (i+1) w
def zhf (n:Nat) (a0:Str):Option (zas × Int × Int):=
 (zkj n a0).bind fun p=>
 if (p.2.1 != (0:Int))=true then some (⟨[]⟩,p.2.1,p.2.2)
 else
  (zfh n zad.Z ⟨0,0⟩ p.1).bind fun a=>
  need (p.1.zax.length<=1073741824) <|
  (zkr p.1.zax [fun i f c w=>zek n c w i f,fun i f c w=>zem n c w i f] a.1 a.2).bind fun b=>
  (zjF n p.1.zax.length b.1 p.1.zax 0 b.2).bind fun w=>
  if (w.e_ != (0:Int))=true then some (⟨[]⟩,w.e_,w.zj1) else some (b.1.p_,0,0)
end Go.Proofs.YtldnmmnnohnpkaaGreatDoor.Abs
namespace Go.Proofs.YtldnmmnnohnpkaaGreatDoor.Abs
set_option linter.unusedVariables false
open Go.RowKit
structure zbi where
 zk1:(List Int)
 zhY:(List (List Int))
def zbi.C (x:zbi):List V:=[.list .none (x.zk1.map (cI .u64)),.list .none (x.zhY.map (cL (cI .u32)))]
@[go_sem] theorem zbi.C_eq (x:zbi):zbi.C x=[.list .none (x.zk1.map (cI .u64)),.list .none (x.zhY.map (cL (cI .u32)))]:=_root_.id rfl
structure zay where
 zbA:Int
 A_:Int
 B_:Int
def zay.C (x:zay):List V:=[.lit (.int .i64 x.zbA),.lit (.int .u32 x.A_),.lit (.int .u32 x.B_)]
@[go_sem] theorem zay.C_eq (x:zay):zay.C x=[.lit (.int .i64 x.zbA),.lit (.int .u32 x.A_),.lit (.int .u32 x.B_)]:=_root_.id rfl
structure zai where
 p_:zas
 zdA:Int
 zcI:Int
 e_:Int
 za4:(List zay)
structure zaF where
 Op_:Int
 N_:Int
 zax:(List zaF)
mutual
def zaF.C:zaF->List V
 | ⟨a0,a1,a2⟩=>[.lit (.int .i64 a0),.lit (.int .u32 a1),.list .none (zaF.CL a2)]
def zaF.CL:List zaF->List (List V)
 | []=>[]
 | x::l=>zaF.C x::zaF.CL l
end
theorem zaF.CL_eq (l:List zaF):zaF.CL l=l.map zaF.C:=by
 induction l with
 | nil=>rfl
 | cons x l ih=>rw [zaF.CL,ih];rfl
@[go_sem] theorem zaF.C_eq (x:zaF):zaF.C x=[.lit (.int .i64 x.Op_),.lit (.int .u32 x.N_),.list .none (x.zax.map zaF.C)]:=by
 cases x;simp only [zaF.C,zaF.CL_eq]
structure zal where
 f_:zaI
 za2:List Int
 zbm:List Int
 zgF:Int
def frC (W A:Pa) (x:zal):List V:=[.lit (.string (bs x.f_.zgC)),.lit (.bool x.f_.zgk),.lit (.int .i64 x.f_.zct),.lit (.int .i64 x.f_.zbd),.list .none (x.f_.zbg.map zaD.C),.list .none (x.f_.zdB.map zaf.C),.vec W 1 x.za2.length,.vec A 1 x.zbm.length,.lit (.int .u64 x.zgF)]
@[go_sem] theorem frC_eq {W A:Pa} {x:zal}:frC W A x=[.lit (.string (bs x.f_.zgC)),.lit (.bool x.f_.zgk),.lit (.int .i64 x.f_.zct),.lit (.int .i64 x.f_.zbd),.list .none (x.f_.zbg.map zaD.C),.list .none (x.f_.zdB.map zaf.C),.vec W 1 x.za2.length,.vec A 1 x.zbm.length,.lit (.int .u64 x.zgF)]:=_root_.id rfl
structure zbD where
 znm:Int
 zct:Int
 zhY:(List (List Int))
 Trace_:(List zay)
def zbD.C (x:zbD):List V:=[.lit (.int .i64 x.znm),.lit (.int .u64 x.zct),.list .none (x.zhY.map (cL (cI .u32))),.list .none (x.Trace_.map zay.C)]
@[go_sem] theorem zbD.C_eq (x:zbD):zbD.C x=[.lit (.int .i64 x.znm),.lit (.int .u64 x.zct),.list .none (x.zhY.map (cL (cI .u32))),.list .none (x.Trace_.map zay.C)]:=_root_.id rfl
def zbD.Z:zbD:=⟨0,0,[],[]⟩
def zgy (a0:Str):Nat->Int->Option (Unit ⊕ Int)
 | 0,_=>none
 | c4+1,v2=>
   if (decide (v2<(15:Int)))=true then
    (idxL zbx v2).bind fun x9=>
    if (decide (x9.zov=a0))=true then
     some (.inr x9.op_)
    else
     zgy a0 c4 (IntKind.i64.wrap (v2+(1:Int)))
   else
    some (.inl ())
def zha (n:Nat) (a0:Str):Option Int:=
 (zgy a0 n (0:Int)).bind fun y3=>
 y3.elim (fun y3a=>
  some (0:Int)) (fun y3a=>
  some y3a)
def zfE (a0:zaI) (a1:zbi):Nat->Int->Int->Int->Option ((Int × Int) ⊕ Bool)
 | 0,_,_,_=>none
 | c10+1,v6,v7,v8=>
   if (decide (v8<((a0.zbg.take a0.zbd.toNat).length:Int)))=true then
    ((idxL (a0.zbg.take a0.zbd.toNat) v8).bind fun x16=>
      if (x16.zbA == (4:Int))=true then
       (if (decide ((a1.zhY.length:Int)<=v7))=true then
          some true
         else
          (idxL a1.zhY v7).bind fun x25=>
          some ((x25.length:Int) != x16.zf8)).bind fun y23=>
       if y23=true then
        some (.inr false)
       else
        some (.inl (v6,(IntKind.i64.wrap (v7+(1:Int)))))
      else
       (if (decide ((a1.zk1.length:Int)<=v6))=true then
          some true
         else
          if (x16.zbA != (3:Int))=true then
           (idxL a1.zk1 v6).bind fun x37=>
           some (decide ((4294967295:Int)<x37))
          else
           some false).bind fun y34=>
       if y34=true then
        some (.inr false)
       else
        some (.inl ((IntKind.i64.wrap (v6+(1:Int))),v7)):Option ((Int × Int) ⊕ Bool)).bind fun y15=>
    y15.elim (fun y15a=>
     zfE a0 a1 c10 y15a.1 y15a.2 (IntKind.i64.wrap (v8+(1:Int)))) (fun y15a=>
     some (.inr y15a))
   else
    some (.inl (v6,v7))
def zhb (n:Nat) (a0:zaI) (a1:zbi):Option Bool:=
 need ((0:Int)<=a0.zbd/\a0.zbd<=(a0.zbg.length:Int)) <|
 (zfE a0 a1 n (0:Int) (0:Int) (0:Int)).bind fun y9=>
 y9.elim (fun y9a=>
  (if (y9a.1 == (a1.zk1.length:Int))=true then
     some (y9a.2 == (a1.zhY.length:Int))
    else
     some false).bind fun y54=>
  some y54) (fun y9a=>
  some y9a)
def zaV (a0:zai):Option Bool:=
 (if (a0.zcI != (0:Int))=true then
    some true
   else
    some (a0.e_ != (0:Int))).bind fun y1=>
 some y1
def zdL (a0:zai):Option zai:=
 if (decide (a0.zdA<=(0:Int)))=true then
  some ({ a0 with e_:=(70:Int) }:zai)
 else
  some ({ a0 with zdA:=(IntKind.i64.wrap (a0.zdA - (1:Int))) }:zai)
def zcn (a0:zai) (a1:Int) (a2:Int) (a3:Int):Option zai:=
 need (a0.za4.length+[(zay.mk a1 a2 a3)].length<=1073741824) <|
 some ({ a0 with za4:=(a0.za4++[(zay.mk a1 a2 a3)]) }:zai)
def zhx (a0:Str) (a1:(List Int)):Option (Int × Bool):=
 if (decide (a0=([115,101,108,101,99,116]:Str)))=true then
  (idxL a1 (0:Int)).bind fun x2=>
  if ((andK .u64 x2 (1:Int)) == (1:Int))=true then
   (idxL a1 (1:Int)).bind fun x9=>
   some (x9,true)
  else
   (idxL a1 (2:Int)).bind fun x15=>
   some (x15,true)
 else
  if (decide (a0=([108,111,110,103]:Str)))=true then
   (idxL a1 (0:Int)).bind fun x22=>
   some (x22,true)
  else
   if (decide (a0=([108,111]:Str)))=true then
    (idxL a1 (0:Int)).bind fun x29=>
    some ((andK .u64 x29 (4294967295:Int)),true)
   else
    if (decide (a0=([104,105]:Str)))=true then
     (idxL a1 (0:Int)).bind fun x36=>
     some ((shrK .u64 x36 (32:Int)),true)
    else
     if (decide (a0=([119,105,100,101]:Str)))=true then
      (idxL a1 (0:Int)).bind fun x43=>
      (idxL a1 (1:Int)).bind fun x44=>
      some ((IntKind.u64.wrap (x43*x44)),true)
     else
      some ((0:Int),false)
def zbO (a0:Int) (a1:Int):Option Int:=
 need ((0:Int)<=(andK .u64 (IntKind.u64.wrap a1) (63:Int))) <|
 need ((0:Int)<=(IntKind.u64.wrap ((64:Int) - (andK .u64 (IntKind.u64.wrap a1) (63:Int))))) <|
 some (orK .u64 (shlK .u64 a0 (andK .u64 (IntKind.u64.wrap a1) (63:Int))) (shrK .u64 a0 (IntKind.u64.wrap ((64:Int) - (andK .u64 (IntKind.u64.wrap a1) (63:Int))))))
def zfo (a0:Bool):Option Int:=
 if a0=true then
  some (1:Int)
 else
  some (0:Int)
def zeg (a0:Str) (a1:Int) (a2:Int):Option Int:=
 if (decide (a0=([124]:Str)))=true then
  some (orK .u64 a1 a2)
 else
  if (decide (a0=([94]:Str)))=true then
   some (xorK .u64 a1 a2)
  else
   if (decide (a0=([38]:Str)))=true then
    some (andK .u64 a1 a2)
   else
    if (decide (a0=([43]:Str)))=true then
     some (IntKind.u64.wrap (a1+a2))
    else
     if (decide (a0=([45]:Str)))=true then
      some (IntKind.u64.wrap (a1 - a2))
     else
      if (decide (a0=([60,60]:Str)))=true then
       need ((0:Int)<=a2) <|
       some (shlK .u64 a1 a2)
      else
       if (decide (a0=([62,62]:Str)))=true then
        need ((0:Int)<=a2) <|
        some (shrK .u64 a1 a2)
       else
        if (decide (a0=([60,60,60]:Str)))=true then
         (zbO a1 (IntKind.i64.wrap a2)).bind fun x11=>
         some x11
        else
         if (decide (a0=([61,61]:Str)))=true then
          (zfo (a1 == a2)).bind fun x14=>
          some x14
         else
          if (decide (a0=([60]:Str)))=true then
           (zfo (decide (a1<a2))).bind fun x17=>
           some x17
          else
           if (decide (a0=([110,111,116]:Str)))=true then
            some (comK .u64 a1)
           else
            some (IntKind.u64.wrap (0 - a1))
def zkO (a0:Int):Option zaF:=
 some (zaF.mk (1:Int) a0 [])
def zk8 (a0:zaF) (a1:(List Int)):Option Int:=
 if (a0.Op_ == (1:Int))=true then
  some a0.N_
 else
  if (decide ((IntKind.i64.wrap a0.N_)<(a1.length:Int)))=true then
   (idxL a1 a0.N_).bind fun x4=>
   some x4
  else
   some (0:Int)
def zhZ (a0:Bool):Option Int:=
 if a0=true then
  some (1:Int)
 else
  some (0:Int)
def zlR (a0:Int) (a1:Int):Option Int:=
 if (a0 == (3:Int))=true then
  some (comK .u32 a1)
 else
  some (IntKind.u32.wrap (0 - a1))
def ze5 (a0:Int) (a1:Int):Option Int:=
 need ((0:Int)<=(andK .u64 (IntKind.u64.wrap a1) (31:Int))) <|
 need ((0:Int)<=(IntKind.u64.wrap ((32:Int) - (andK .u64 (IntKind.u64.wrap a1) (31:Int))))) <|
 some (orK .u32 (shlK .u32 a0 (andK .u64 (IntKind.u64.wrap a1) (31:Int))) (shrK .u32 a0 (IntKind.u64.wrap ((32:Int) - (andK .u64 (IntKind.u64.wrap a1) (31:Int))))))
def zkN (a0:Int) (a1:Int) (a2:Int):Option Int:=
 if (a0 == (5:Int))=true then
  some (orK .u32 a1 a2)
 else
  if (a0 == (6:Int))=true then
   some (xorK .u32 a1 a2)
  else
   if (a0 == (7:Int))=true then
    some (andK .u32 a1 a2)
   else
    if (a0 == (10:Int))=true then
     need ((0:Int)<=(andK .u32 a2 (31:Int))) <|
     some (shlK .u32 a1 (andK .u32 a2 (31:Int)))
    else
     if (a0 == (11:Int))=true then
      need ((0:Int)<=(andK .u32 a2 (31:Int))) <|
      some (shrK .u32 a1 (andK .u32 a2 (31:Int)))
     else
      (ze5 a1 (IntKind.i64.wrap (andK .u32 a2 (31:Int)))).bind fun x8=>
      some x8
def zlQ (a0:Int) (a1:Int) (a2:Int):Option (Int × Bool):=
 if (a0 == (8:Int))=true then
  (zhZ (a1 == a2)).bind fun x2=>
  some (x2,true)
 else
  if (a0 == (9:Int))=true then
   (zhZ (decide (a1<a2))).bind fun x5=>
   some (x5,true)
  else
   if (a0 == (13:Int))=true then
    some ((IntKind.u32.wrap (a1+a2)),true)
   else
    if (a0 == (14:Int))=true then
     some ((IntKind.u32.wrap (a1 - a2)),true)
    else
     if (a0 == (15:Int))=true then
      some ((IntKind.u32.wrap (a1*a2)),true)
     else
      if (a0 == (16:Int))=true then
       if (a2 == (0:Int))=true then
        some ((0:Int),false)
       else
        need (a2 ≠ (0:Int)) <|
        some ((IntKind.u32.wrap (a1.tdiv a2)),true)
      else
       if (a0 == (17:Int))=true then
        if (a2 == (0:Int))=true then
         some ((0:Int),false)
        else
         need (a2 ≠ (0:Int)) <|
         some ((a1.tmod a2),true)
       else
        (zkN a0 a1 a2).bind fun x16=>
        some (x16,true)
def zkc (zfT:zaF->(List Int)->Option (Int × Bool)) (n:Nat) (a0:zaF) (a1:(List Int)):Option (Int × Bool):=
 if ((a0.zax.length:Int) == (0:Int))=true then
  (zk8 a0 a1).bind fun x3=>
  some (x3,true)
 else
  (idxL a0.zax (0:Int)).bind fun x5=>
  (zfT x5 a1).bind fun x6=>
  (if (!x6.2)=true then
     some true
    else
     some ((a0.zax.length:Int) == (1:Int))).bind fun y13=>
  if y13=true then
   (zhZ x6.2).bind fun x19=>
   (zlR a0.Op_ x6.1).bind fun x20=>
   some ((IntKind.u32.wrap (x19*x20)),x6.2)
  else
   (idxL a0.zax (1:Int)).bind fun x23=>
   (zfT x23 a1).bind fun x24=>
   if (!x24.2)=true then
    some ((0:Int),false)
   else
    (zlQ a0.Op_ x6.1 x24.1).bind fun x32=>
    some (x32.1,x32.2)
def zg1:Nat->zaF->(List Int)->Option (Int × Bool)
 | 0=>fun _ _=>none
 | n+1=>zkc (zg1 n) n
def zcw (a2:(List Int)):Nat->Int->zaF->Option zaF
 | 0,_,_=>none
 | c50+1,v47,v48=>
   if (decide (v47<(a2.length:Int)))=true then
    (idxL a2 v47).bind fun x55=>
    (zkO (IntKind.u32.wrap x55)).bind fun x60=>
    need (v48.zax.length+[x60].length<=1073741824) <|
    zcw a2 c50 (IntKind.i64.wrap (v47+(1:Int))) ({ v48 with zax:=(v48.zax++[x60]) }:zaF)
   else
    some v48
def zcd (a2:(List Int)):Nat->Int->zaF->Option zaF
 | 0,_,_=>none
 | c78+1,v75,v76=>
   if (decide (v75<(a2.length:Int)))=true then
    (idxL a2 v75).bind fun x83=>
    (zkO (IntKind.u32.wrap x83)).bind fun x88=>
    need (v76.zax.length+[x88].length<=1073741824) <|
    zcd a2 c78 (IntKind.i64.wrap (v75+(1:Int))) ({ v76 with zax:=(v76.zax++[x88]) }:zaF)
   else
    some v76
def zcv (a2:(List Int)):Nat->Int->zaF->Option zaF
 | 0,_,_=>none
 | c129+1,v126,v127=>
   if (decide (v126<(a2.length:Int)))=true then
    (idxL a2 v126).bind fun x134=>
    (zkO (IntKind.u32.wrap x134)).bind fun x139=>
    need (v127.zax.length+[x139].length<=1073741824) <|
    zcv a2 c129 (IntKind.i64.wrap (v126+(1:Int))) ({ v127 with zax:=(v127.zax++[x139]) }:zaF)
   else
    some v127
def zcu (a2:(List Int)):Nat->Int->zaF->Option zaF
 | 0,_,_=>none
 | c157+1,v154,v155=>
   if (decide (v154<(a2.length:Int)))=true then
    (idxL a2 v154).bind fun x162=>
    (zkO (IntKind.u32.wrap x162)).bind fun x167=>
    need (v155.zax.length+[x167].length<=1073741824) <|
    zcu a2 c157 (IntKind.i64.wrap (v154+(1:Int))) ({ v155 with zax:=(v155.zax++[x167]) }:zaF)
   else
    some v155
def zcY (n:Nat) (a0:zai) (a1:zae) (a2:(List Int)):Option (Int × zai):=
 (if (decide ((0:Int)<(a1.zax.length:Int)))=true then
    (idxL a1.zax (0:Int)).bind fun x4=>
    some (x4.zcK == (3:Int))
   else
    some false).bind fun y2=>
 if (decide ((1:Int)<(a2.length:Int)))=true then
  (idxL a2 (1:Int)).bind fun x14=>
  if y2=true then
   (idxL a2 (0:Int)).bind fun x21=>
   (zeg a1.Op_ x21 x14).bind fun x22=>
   some (x22,a0)
  else
   (if (decide (a1.Op_=([47]:Str)))=true then
      some true
     else
      some (decide (a1.Op_=([37]:Str)))).bind fun y29=>
   if y29=true then
    (idxL a2 (0:Int)).bind fun x35=>
    (zcn a0 (4:Int) (IntKind.u32.wrap x35) (IntKind.u32.wrap x14)).bind fun x36=>
    (zha n a1.Op_).bind fun x43=>
    (zcw a2 n (0:Int) (zaF.mk x43 (0:Int) [])).bind fun y49=>
    (zg1 n y49 []).bind fun x68=>
    if (!x68.2)=true then
     some ((IntKind.u64.wrap x68.1),({ x36 with zcI:=(2:Int) }:zai))
    else
     some ((IntKind.u64.wrap x68.1),x36)
   else
    (zha n a1.Op_).bind fun x71=>
    (zcd a2 n (0:Int) (zaF.mk x71 (0:Int) [])).bind fun y77=>
    (zg1 n y77 []).bind fun x96=>
    if (!x96.2)=true then
     some ((IntKind.u64.wrap x96.1),({ a0 with zcI:=(2:Int) }:zai))
    else
     some ((IntKind.u64.wrap x96.1),a0)
 else
  if y2=true then
   (idxL a2 (0:Int)).bind fun x100=>
   (zeg a1.Op_ x100 (0:Int)).bind fun x101=>
   some (x101,a0)
  else
   (if (decide (a1.Op_=([47]:Str)))=true then
      some true
     else
      some (decide (a1.Op_=([37]:Str)))).bind fun y108=>
   if y108=true then
    (idxL a2 (0:Int)).bind fun x114=>
    (zcn a0 (4:Int) (IntKind.u32.wrap x114) (IntKind.u32.wrap (0:Int))).bind fun x115=>
    (zha n a1.Op_).bind fun x122=>
    (zcv a2 n (0:Int) (zaF.mk x122 (0:Int) [])).bind fun y128=>
    (zg1 n y128 []).bind fun x147=>
    if (!x147.2)=true then
     some ((IntKind.u64.wrap x147.1),({ x115 with zcI:=(2:Int) }:zai))
    else
     some ((IntKind.u64.wrap x147.1),x115)
   else
    (zha n a1.Op_).bind fun x150=>
    (zcu a2 n (0:Int) (zaF.mk x150 (0:Int) [])).bind fun y156=>
    (zg1 n y156 []).bind fun x175=>
    if (!x175.2)=true then
     some ((IntKind.u64.wrap x175.1),({ a0 with zcI:=(2:Int) }:zai))
    else
     some ((IntKind.u64.wrap x175.1),a0)
def zb8 (zbc:zai->zal->(List (List Int))->zae->Option (Int × zai)) (a3:zae) (a1:zal) (a2:(List (List Int))):Nat->(List Int)->Int->zai->Option (((List Int) × zai) ⊕ (Int × zai))
 | 0,_,_,_=>none
 | c50+1,v46,v47,v48=>
   if (decide (v47<(a3.zax.length:Int)))=true then
    (idxL a3.zax v47).bind fun x55=>
    (zbc v48 a1 a2 x55).bind fun x61=>
    (zaV x61.2).bind fun x63=>
    if x63=true then
     some (.inr ((0:Int),x61.2))
    else
     need (v46.length+[x61.1].length<=1073741824) <|
     zb8 zbc a3 a1 a2 c50 (v46++[x61.1]) (IntKind.i64.wrap (v47+(1:Int))) x61.2
   else
    some (.inl (v46,v48))
def zcW (zdr:zai->zal->(List (List Int))->zae->Int->Option (Int × zai)) (zbc:zai->zal->(List (List Int))->zae->Option (Int × zai)) (n:Nat) (a0:zai) (a1:zal) (a2:(List (List Int))) (a3:zae):Option (Int × zai):=
 if (decide (a3.Op_=([110,117,109]:Str)))=true then
  some ((IntKind.u64.wrap a3.N_),a0)
 else
  if (decide (a3.Op_=([118,97,114]:Str)))=true then
   (idxL a1.za2 a3.Var_).bind fun x4=>
   some (x4,a0)
  else
   if (decide (a3.Op_=([105,110,100,101,120]:Str)))=true then
    (idxL a3.zax (0:Int)).bind fun x12=>
    (zdr a0 a1 a2 x12 a3.Var_).bind fun x13=>
    (zaV x13.2).bind fun x20=>
    if x20=true then
     some ((0:Int),x13.2)
    else
     (idxL a1.zbm a3.Var_).bind fun x23=>
     (idxL a2 x23).bind fun x24=>
     (idxL x24 x13.1).bind fun x26=>
     some ((IntKind.u64.wrap x26),x13.2)
   else
    (zb8 zbc a3 a1 a2 n [] (0:Int) a0).bind fun y49=>
    y49.elim (fun y49a=>
     (zhx a3.Op_ y49a.1).bind fun x74=>
     if x74.2=true then
      some (x74.1,y49a.2)
     else
      (zcY n y49a.2 a3 y49a.1).bind fun x77=>
      some (x77.1,x77.2)) (fun y49a=>
     some y49a)
def zeI (zbc:zai->zal->(List (List Int))->zae->Option (Int × zai)) (n:Nat) (a0:zai) (a1:zal) (a2:(List (List Int))) (a3:zae) (a4:Int):Option (Int × zai):=
 (zbc a0 a1 a2 a3).bind fun x2=>
 (zaV x2.2).bind fun x4=>
 if x4=true then
  some ((0:Int),x2.2)
 else
  (idxL a1.zbm a4).bind fun x7=>
  (idxL a2 x7).bind fun x8=>
  (zcn x2.2 (3:Int) (IntKind.u32.wrap x2.1) (IntKind.u32.wrap (x8.length:Int))).bind fun x22=>
  if (decide ((IntKind.u32.wrap (x8.length:Int))<=(IntKind.u32.wrap x2.1)))=true then
   some ((0:Int),({ x22 with zcI:=(1:Int) }:zai))
  else
   some ((IntKind.u32.wrap x2.1),x22)
def zbZ:Nat->(zai->zal->(List (List Int))->zae->Option (Int × zai)) × (zai->zal->(List (List Int))->zae->Int->Option (Int × zai))
 | 0=>(fun _ _ _ _=>none,fun _ _ _ _ _=>none)
 | n+1=>(zcW (zbZ n).2 (zbZ n).1 n,zeI (zbZ n).1 n)
def zbl (n:Nat):zai->zal->(List (List Int))->zae->Option (Int × zai):=(zbZ n).1
def zd7 (n:Nat):zai->zal->(List (List Int))->zae->Int->Option (Int × zai):=(zbZ n).2
def zcc (a0:zal) (a1:(List (List Int))) (a2:Int) (a3:Int):Option (zal × (List (List Int))):=
 if (decide ((0:Int)<=a2))=true then
  (idxL a0.za2 a2).bind fun x2=>
  some (({ a0 with za2:=(a0.za2.set a2.toNat a3) }:zal),a1)
 else
  some (a0,a1)
def zfg (n:Nat) (a0:zai) (a1:zal) (a2:(List (List Int))) (a3:zaf):Option (zai × zal × (List (List Int))):=
 (idxL a3.zax (0:Int)).bind fun x2=>
 (zd7 n a0 a1 a2 x2 a3.Var_).bind fun x3=>
 (zaV x3.2).bind fun x10=>
 if x10=true then
  some (x3.2,a1,a2)
 else
  (idxL a3.zax (1:Int)).bind fun x13=>
  (zbl n x3.2 a1 a2 x13).bind fun x14=>
  (zaV x14.2).bind fun x21=>
  if (!x21)=true then
   (idxL a1.zbm a3.Var_).bind fun x24=>
   (idxL a2 x24).bind fun x25=>
   (idxL x25 x3.1).bind fun x27=>
   some (x14.2,a1,(a2.set x24.toNat (x25.set x3.1.toNat (IntKind.u32.wrap x14.1))))
  else
   some (x14.2,a1,a2)
def zbz (zbw:zai->zal->(List (List Int))->zaf->Option (zai × zal × (List (List Int)))) (a3:(List zaf)):Nat->Int->zai->zal->(List (List Int))->Option ((zai × zal × (List (List Int))) ⊕ (zai × zal × (List (List Int))))
 | 0,_,_,_,_=>none
 | c7+1,v2,v3,v4,v5=>
   if (decide (v2<(a3.length:Int)))=true then
    ((idxL a3 v2).bind fun x15=>
      (zaV v3).bind fun x21=>
      if x21=true then
       some (.inr (v3,v4,v5))
      else
       (zdL v3).bind fun x24=>
       (zaV x24).bind fun x26=>
       if (!x26)=true then
        (zbw x24 v4 v5 x15).bind fun x29=>
        some (.inl (x29.1,x29.2.1,x29.2.2))
       else
        some (.inl (x24,v4,v5)):Option ((zai × zal × (List (List Int))) ⊕ (zai × zal × (List (List Int))))).bind fun y14=>
    y14.elim (fun y14a=>
     zbz zbw a3 c7 (IntKind.i64.wrap (v2+(1:Int))) y14a.1 y14a.2.1 y14a.2.2) (fun y14a=>
     some (.inr y14a))
   else
    some (.inl (v3,v4,v5))
def zcZ (zbw:zai->zal->(List (List Int))->zaf->Option (zai × zal × (List (List Int)))) (n:Nat) (a0:zai) (a1:zal) (a2:(List (List Int))) (a3:(List zaf)):Option (zai × zal × (List (List Int))):=
 (zbz zbw a3 n (0:Int) a0 a1 a2).bind fun y6=>
 y6.elim (fun y6a=>
  some (y6a.1,y6a.2.1,y6a.2.2)) (fun y6a=>
  some y6a)
def zcm (zdC:zai->zal->(List (List Int))->zaf->Option (zai × zal × (List (List Int)))) (zdc:zai->zal->(List (List Int))->zaf->Option (zai × zal × (List (List Int)))) (zdb:zai->zal->(List (List Int))->zaf->Option (zai × zal × (List (List Int)))) (n:Nat) (a0:zai) (a1:zal) (a2:(List (List Int))) (a3:zaf):Option (zai × zal × (List (List Int))):=
 if (decide (a3.Op_=([108,101,116]:Str)))=true then
  (idxL a3.zax (0:Int)).bind fun x3=>
  (zbl n a0 a1 a2 x3).bind fun x4=>
  (zaV x4.2).bind fun x11=>
  if (!x11)=true then
   (zcc a1 a2 a3.Var_ x4.1).bind fun x14=>
   some (x4.2,x14.1,x14.2)
  else
   some (x4.2,a1,a2)
 else
  if (decide (a3.Op_=([118,97,114]:Str)))=true then
   (idxL a3.zax (0:Int)).bind fun x17=>
   (zbl n a0 a1 a2 x17).bind fun x18=>
   (zaV x18.2).bind fun x25=>
   if (!x25)=true then
    (zcc a1 a2 a3.Var_ x18.1).bind fun x28=>
    some (x18.2,x28.1,x28.2)
   else
    some (x18.2,a1,a2)
  else
   if (decide (a3.Op_=([115,101,116]:Str)))=true then
    (idxL a3.zax (0:Int)).bind fun x31=>
    (zbl n a0 a1 a2 x31).bind fun x32=>
    (zaV x32.2).bind fun x39=>
    if (!x39)=true then
     (zcc a1 a2 a3.Var_ x32.1).bind fun x42=>
     some (x32.2,x42.1,x42.2)
    else
     some (x32.2,a1,a2)
   else
    if (decide (a3.Op_=([97,114,114]:Str)))=true then
     (idxL a1.zbm a3.Var_).bind fun x45=>
     (idxL a2 x45).bind fun x46=>
     need (0<x46.length) <|
     some (a0,a1,(a2.set x45.toNat (List.replicate x46.length (0:Int))))
    else
     if (decide (a3.Op_=([112,117,116]:Str)))=true then
      (zfg n a0 a1 a2 a3).bind fun x64=>
      some (x64.1,x64.2.1,x64.2.2)
     else
      if (decide (a3.Op_=([99,97,108,108]:Str)))=true then
       (zdC a0 a1 a2 a3).bind fun x67=>
       some (x67.1,x67.2.1,x67.2.2)
      else
       if (decide (a3.Op_=([105,102]:Str)))=true then
        (zdc a0 a1 a2 a3).bind fun x70=>
        some (x70.1,x70.2.1,x70.2.2)
       else
        if (decide (a3.Op_=([102,111,114]:Str)))=true then
         (zdb a0 a1 a2 a3).bind fun x73=>
         some (x73.1,x73.2.1,x73.2.2)
        else
         if (decide (a3.Op_=([114,101,116,117,114,110]:Str)))=true then
          (idxL a3.zax (0:Int)).bind fun x76=>
          (zbl n a0 a1 a2 x76).bind fun x77=>
          some (x77.2,({ a1 with zgF:=x77.1 }:zal),a2)
         else
          some (a0,a1,a2)
def zmy (p:Nat):List zaD->Nat->Nat->List Int->List (List Int)->Option (List Int × List (List Int))
 | [],_,_,rs,hs=>some (rs,hs)
 | v::l,i,b,rs,hs=>if v.zbA=4 then need (0<v.zf8/\v.zf8<=1073741824) (zmy p l (i+1) b (rs.set (p+i) ((b+hs.length:Nat):Int)) (hs++[List.replicate v.zf8.toNat (0:Int)])) else zmy p l (i+1) b rs hs
def zkB (f:zaI) (b:Nat):Option (zal × List (List Int)):=
 need (0<=f.zbd/\f.zbd<=(f.zbg.length:Int)/\f.zbg.length<=1000000) <|
 (zmy f.zbd.toNat (f.zbg.drop f.zbd.toNat) 0 b (List.replicate f.zbg.length (-1)) []).bind fun r=>
 some ((⟨f,List.replicate f.zbg.length 0,r.1,0⟩:zal),r.2)
def zjP (n:Nat) (fr:zal) (hs h2:List (List Int)):List zae->Nat->zai->zal->Option (zai ⊕ (zai × zal))
 | [],_,r,to=>some (.inr (r,to))
 | x::l,i,r,to=>
   if x.zcK=4 then
    (idxL fr.zbm x.Var_).bind fun k=>
    need (0<=k/\k<(hs.length:Int)/\i<to.zbm.length) <|
    zjP n fr hs h2 l (i+1) r { to with zbm:=to.zbm.set i k }
   else
    (zbl n r fr hs x).bind fun v=>
    (zaV v.2).bind fun e=>
    if e=true then some (.inl v.2) else
    (zcc to (hs++h2) (i:Int) v.1).bind fun t=>
    zjP n fr hs h2 l (i+1) v.2 t.1
def zd0 (zaP:zai->zal->(List (List Int))->(List zaf)->Option (zai × zal × (List (List Int)))) (n:Nat) (a0:zai) (a1:zal) (a2:List (List Int)) (a3:zaf):Option (zai × zal × List (List Int)):=
 need (a3.zax.length<=1000000) <|
 (idxL a0.p_.zbp a3.zhh).bind fun f=>
 (zkB f a2.length).bind fun o=>
 (zjP n a1 a2 o.2 a3.zax 0 a0 o.1).bind fun c=>c.elim (fun r=>some (r,a1,a2)) fun c=>
 (zaP c.1 c.2 (a2++o.2) c.2.f_.zdB).bind fun b=>
 (zaV b.1).bind fun e=>
 if e=true then some (b.1,a1,b.2.2.take a2.length) else
 if a3.Var_=-2 then some (b.1,({ a1 with zgF:=b.2.1.zgF }:zal),b.2.2.take a2.length) else
 (zcc a1 (b.2.2.take a2.length) a3.Var_ b.2.1.zgF).bind fun p=>some (b.1,p.1,p.2)
def zes (zaP:zai->zal->(List (List Int))->(List zaf)->Option (zai × zal × (List (List Int)))) (n:Nat) (a0:zai) (a1:zal) (a2:(List (List Int))) (a3:zaf):Option (zai × zal × (List (List Int))):=
 (idxL a3.zax (0:Int)).bind fun x2=>
 (zbl n a0 a1 a2 x2).bind fun x3=>
 (zaV x3.2).bind fun x10=>
 if x10=true then
  some (x3.2,a1,a2)
 else
  if (x3.1 != (0:Int))=true then
   (zcn x3.2 (1:Int) (1:Int) (0:Int)).bind fun x14=>
   (zaP x14 a1 a2 a3.zdB).bind fun x16=>
   some (x16.1,x16.2.1,x16.2.2)
  else
   (zcn x3.2 (1:Int) (0:Int) (0:Int)).bind fun x18=>
   (zaP x18 a1 a2 a3.zis).bind fun x20=>
   some (x20.1,x20.2.1,x20.2.2)
def zcE (zaP:zai->zal->(List (List Int))->(List zaf)->Option (zai × zal × (List (List Int)))) (x14:(Int × zai)) (a3:zaf):Nat->Int->zai->zal->(List (List Int))->Option (zai × zal × (List (List Int)))
 | 0,_,_,_,_=>none
 | c32+1,v27,v28,v29,v30=>
   (if (decide (v27<(IntKind.u32.wrap x14.1)))=true then
      (zaV v28).bind fun x40=>
      some (!x40)
     else
      some false).bind fun y38=>
   if y38=true then
    (zdL v28).bind fun x46=>
    (zcc v29 v30 a3.Var_ (IntKind.u64.wrap v27)).bind fun x48=>
    (zaP x46 x48.1 x48.2 a3.zdB).bind fun x50=>
    zcE zaP x14 a3 c32 (IntKind.u32.wrap (v27+(1:Int))) x50.1 x50.2.1 x50.2.2
   else
    some (v28,v29,v30)
def zeq (zaP:zai->zal->(List (List Int))->(List zaf)->Option (zai × zal × (List (List Int)))) (n:Nat) (a0:zai) (a1:zal) (a2:(List (List Int))) (a3:zaf):Option (zai × zal × (List (List Int))):=
 (idxL a3.zax (0:Int)).bind fun x2=>
 (zbl n a0 a1 a2 x2).bind fun x3=>
 (zaV x3.2).bind fun x10=>
 if x10=true then
  some (x3.2,a1,a2)
 else
  (idxL a3.zax (1:Int)).bind fun x13=>
  (zbl n x3.2 a1 a2 x13).bind fun x14=>
  (zaV x14.2).bind fun x21=>
  if x21=true then
   some (x14.2,a1,a2)
  else
   (zcn x14.2 (2:Int) (IntKind.u32.wrap x3.1) (IntKind.u32.wrap x14.1)).bind fun x24=>
   (zcE zaP x14 a3 n (IntKind.u32.wrap x3.1) x24 a1 a2).bind fun y31=>
   some (y31.1,y31.2.1,y31.2.2)
def zaU:Nat->(zai->zal->(List (List Int))->(List zaf)->Option (zai × zal × (List (List Int)))) × (zai->zal->(List (List Int))->zaf->Option (zai × zal × (List (List Int)))) × (zai->zal->(List (List Int))->zaf->Option (zai × zal × (List (List Int)))) × (zai->zal->(List (List Int))->zaf->Option (zai × zal × (List (List Int)))) × (zai->zal->(List (List Int))->zaf->Option (zai × zal × (List (List Int))))
 | 0=>(fun _ _ _ _=>none,fun _ _ _ _=>none,fun _ _ _ _=>none,fun _ _ _ _=>none,fun _ _ _ _=>none)
 | n+1=>(zcZ (zaU n).2.1 n,zcm (zaU n).2.2.1 (zaU n).2.2.2.1 (zaU n).2.2.2.2 n,zd0 (zaU n).1 n,zes (zaU n).1 n,zeq (zaU n).1 n)
def zd8 (n:Nat):zai->zal->(List (List Int))->(List zaf)->Option (zai × zal × (List (List Int))):=(zaU n).1
def zhG (n:Nat):zai->zal->(List (List Int))->zaf->Option (zai × zal × (List (List Int))):=(zaU n).2.1
def zjU (n:Nat):zai->zal->(List (List Int))->zaf->Option (zai × zal × (List (List Int))):=(zaU n).2.2.1
def zi5 (n:Nat):zai->zal->(List (List Int))->zaf->Option (zai × zal × (List (List Int))):=(zaU n).2.2.2.1
def zi4 (n:Nat):zai->zal->(List (List Int))->zaf->Option (zai × zal × (List (List Int))):=(zaU n).2.2.2.2
end Go.Proofs.YtldnmmnnohnpkaaGreatDoor.Abs
namespace Go.Proofs.YtldnmmnnohnpkaaGreatDoor.Abs
set_option linter.unusedVariables false
def outL (hs:List (List Int)):List zaD->Nat->List Int->List (List Int)->Option (List (List Int))
 | [],_,_,out=>some out
 | v::l,i,rs,out=>
   if v.zbA=4 then
    (idxL rs (i:Int)).bind fun k=>need (0<=k) <| (idxL hs k).bind fun a=>outL hs l (i+1) rs (out++[a])
   else outL hs l (i+1) rs out
def zkA (r:zai) (fr:zal) (hs:List (List Int)):Option zbD:=
 need ((∀k ∈ fr.zbm,k<(hs.length:Int))/\0<=fr.f_.zbd/\fr.f_.zbd<=(fr.f_.zbg.length:Int)/\fr.f_.zbg.length<=1000000) <|
 (outL hs (fr.f_.zbg.take fr.f_.zbd.toNat) 0 fr.zbm []).bind fun a=>some ⟨r.zcI,if r.zcI=0 then fr.zgF else 0,a,r.za4⟩
def zjm (a:zbi):List zaD->Nat->Nat->Nat->zal->List (List Int)->Option (zal × List (List Int))
 | [],_,_,_,to,hs=>some (to,hs)
 | v::l,i,w,k,to,hs=>
   if v.zbA=4 then
    (idxL a.zhY (k:Int)).bind fun x=>need (0<x.length/\x.length<=1073741824/\i<to.zbm.length) <|
    zjm a l (i+1) w (k+1) { to with zbm:=to.zbm.set i (hs.length:Int) } (hs++[x])
   else
    (idxL a.zk1 (w:Int)).bind fun x=>need (i<to.za2.length) <|
    zjm a l (i+1) (w+1) k { to with za2:=to.za2.set i x } hs
def zgi (n:Nat) (p:zas) (fn:Int) (a:zbi) (fuel:Int):Option (zbD × Int):=
 if fn<0 ∨ (p.zbp.length:Int)<=fn then some (zbD.Z,11) else
 (idxL p.zbp fn).bind fun f=>
 (zkB f 0).bind fun o=>
 (zhb n f a).bind fun ft=>
 if ft=false then some (zbD.Z,10) else
 (zjm a (f.zbg.take f.zbd.toNat) 0 0 0 o.1 o.2).bind fun t=>
 (zd8 n ⟨p,fuel,0,0,[]⟩ t.1 t.2 f.zdB).bind fun b=>
 if b.1.e_ ≠ 0 then some (zbD.Z,b.1.e_) else
 (zkA b.1 b.2.1 b.2.2).bind fun x=>some (x,0)
end Go.Proofs.YtldnmmnnohnpkaaGreatDoor.Abs
namespace Go.Proofs.YtldnmmnnohnpkaaGreatDoor.Abs
set_option linter.unusedVariables false
open Go.RowKit
def zdY (n:Nat):Option Bool:=
 (zhf n ([101,120,112,111,114,116,32,102,110,32,102,40,112,58,32,112,117,98,44,32,120,58,32,117,51,50,41,32,45,62,32,117,51,50,32,123,32,114,101,116,117,114,110,32,120,32,43,32,49,48,32,47,32,112,59,32,125]:Str)).bind fun x1=>
 (if (x1.2.1 != (0:Int))=true then
    some true
   else
    some ((x1.1.zbp.length:Int) != (1:Int))).bind fun y4=>
 if y4=true then
  some false
 else
  (zgi n x1.1 (0:Int) (zbi.mk [(0:Int),(1:Int)] []) (9:Int)).bind fun x10=>
  (zgi n x1.1 (0:Int) (zbi.mk [(3:Int),(1:Int)] []) (9:Int)).bind fun x13=>
  (if (x10.2 == (0:Int))=true then
     if (x13.2 == (0:Int))=true then
      if (x10.1.znm == (2:Int))=true then
       if (x13.1.znm == (0:Int))=true then
        some (x13.1.zct == (4:Int))
       else
        some false
      else
       some false
     else
      some false
    else
     some false).bind fun y16=>
  some y16
def za8 (n:Nat) (a0:Str) (a1:(List Int)):Option (Int × Bool):=
 need (a0.length<=4611686018427387904) <|
 (zhf n a0).bind fun x1=>
 if (x1.2.1 != (0:Int))=true then
  some ((0:Int),false)
 else
  (zgi n x1.1 (0:Int) (zbi.mk a1 []) (1000:Int)).bind fun x7=>
  (if (x7.2 == (0:Int))=true then
     some (x7.1.zct,(x7.1.znm == (0:Int)))
    else
     some (x7.1.zct,false)).bind fun y10=>
  some (y10.1,y10.2)
def zcl (n:Nat) (a0:Int) (a1:Int):Option Bool:=
 (zdY n).bind fun x1=>
 if (!x1)=true then
  some false
 else
  (za8 n ([102,110,32,102,40,120,58,32,117,54,52,44,32,121,58,32,117,54,52,41,32,45,62,32,117,54,52,32,123,32,114,101,116,117,114,110,32,120,32,43,32,121,32,45,32,121,59,32,125]:Str) [a0,a1]).bind fun x4=>
  (za8 n (102::110::32::102::40::120::58::32::117::54::52::44::32::121::58::32::117::54::52::41::32::45::62::32::117::54::52::32::123::32::114::101::116::117::114::110::32::108::111::110::103::40::104::105::40::120::41::41::32::60::60::32::51::50::32::124::32::108::111::110::103::40::108::111::40::120::41::41::59::32::125::[]:Str) [a0,a1]).bind fun x6=>
  (za8 n ([102,110,32,102,40,120,58,32,117,54,52,44,32,121,58,32,117,54,52,41,32,45,62,32,117,54,52,32,123,32,114,101,116,117,114,110,32,40,120,32,60,60,60,32,51,55,41,32,60,60,60,32,50,55,59,32,125]:Str) [a0,a1]).bind fun x8=>
  (za8 n (102::110::32::102::40::120::58::32::117::54::52::44::32::121::58::32::117::54::52::41::32::45::62::32::117::54::52::32::123::32::114::101::116::117::114::110::32::108::111::110::103::40::40::120::32::60::32::121::41::32::43::32::40::121::32::60::32::120::41::32::43::32::40::120::32::61::61::32::121::41::41::59::32::125::[]:Str) [a0,a1]).bind fun x10=>
  (za8 n (102::110::32::102::40::120::58::32::117::54::52::44::32::121::58::32::117::54::52::41::32::45::62::32::117::54::52::32::123::32::114::101::116::117::114::110::32::119::105::100::101::40::108::111::40::120::41::44::32::108::111::40::121::41::41::32::45::32::119::105::100::101::40::108::111::40::121::41::44::32::108::111::40::120::41::41::32::43::32::115::101::108::101::99::116::40::49::44::32::120::44::32::121::41::59::32::125::[]:Str) [a0,a1]).bind fun x12=>
  (if x4.2=true then
     if x6.2=true then
      if x8.2=true then
       if x10.2=true then
        if x12.2=true then
         if (x4.1 == a0)=true then
          if (x6.1 == a0)=true then
           if (x8.1 == a0)=true then
            if (x10.1 == (1:Int))=true then
             some (x12.1 == a0)
            else
             some false
           else
            some false
          else
           some false
         else
          some false
        else
         some false
       else
        some false
      else
       some false
     else
      some false
    else
     some false).bind fun y14=>
  some y14
end Go.Proofs.YtldnmmnnohnpkaaGreatDoor.Abs
