/-
 Plain models of functions. Written by a program of mine (gen.py) for this claim.
-/
import Derived.Test.YtldnmmnnohnpkaaGreatDoorFtGMm
namespace Go.Proofs.YtldnmmnnohnpkaaGreatDoor.Abs
open Go.RowKit
set_option linter.unusedVariables false
structure zaj where
 p_:zaz
 f_:zao
 zcm:Int
 e_:Int
structure zal where
 Tag_:Str
 za5:Str
 A_:Int
 B_:Int
 C_:Int
 D_:Int
 E_:Int
 At_:Int
def zal.C (x:zal):List V:=[.lit (.string (bs x.Tag_)),.lit (.string (bs x.za5)),.lit (.int .i64 x.A_),.lit (.int .i64 x.B_),.lit (.int .i64 x.C_),.lit (.int .i64 x.D_),.lit (.int .i64 x.E_),.lit (.int .i64 x.At_)]
@[go_sem] theorem zal.C_eq (x:zal):zal.C x=[.lit (.string (bs x.Tag_)),.lit (.string (bs x.za5)),.lit (.int .i64 x.A_),.lit (.int .i64 x.B_),.lit (.int .i64 x.C_),.lit (.int .i64 x.D_),.lit (.int .i64 x.E_),.lit (.int .i64 x.At_)]:=_root_.id rfl
def zbT (a0:zaj):Option zaj:=
 if (decide ((16384:Int)<(IntKind.i64.wrap (a0.zcm+(1:Int)))))=true then
  some ({ a0 with zcm:=(IntKind.i64.wrap (a0.zcm+(1:Int))),e_:=(161:Int) }:zaj)
 else
  some ({ a0 with zcm:=(IntKind.i64.wrap (a0.zcm+(1:Int))) }:zaj)
def zjG (a0:Int) (a1:(List Int)):Option Int:=
 (if (decide (a0<(0:Int)))=true then
    some true
   else
    some (decide ((a1.length:Int)<=a0))).bind fun y1=>
 if y1=true then
  some a0
 else
  (idxL a1 a0).bind fun x7=>
  some x7
def zhn (zgy:(List zaf)->(List Int)->Option (List zaf)) (n:Nat) (a0:zaf) (a1:(List Int)):Option zaf:=
 (zjG a0.Var_ a1).bind fun x3=>
 (zgy a0.zas a1).bind fun x5=>
 some ({ a0 with Var_:=x3,zas:=x5 }:zaf)
def ze9 (zeE:zaf->(List Int)->Option zaf) (a0:(List zaf)) (a1:(List Int)):Nat->(List zaf)->Int->Option (List zaf)
 | 0,_,_=>none
 | c5+1,v2,v3=>
   if (decide (v3<(a0.length:Int)))=true then
    (idxL a0 v3).bind fun x10=>
    (zeE x10 a1).bind fun x16=>
    need (v2.length+[x16].length<=1073741824) <|
    ze9 zeE a0 a1 c5 (v2++[x16]) (IntKind.i64.wrap (v3+(1:Int)))
   else
    some v2
def zgI (zeE:zaf->(List Int)->Option zaf) (n:Nat) (a0:(List zaf)) (a1:(List Int)):Option (List zaf):=
 (ze9 zeE a0 a1 n [] (0:Int)).bind fun y4=>
 some y4
def zg3:Nat->(zaf->(List Int)->Option zaf) × ((List zaf)->(List Int)->Option (List zaf))
 | 0=>(fun _ _=>none,fun _ _=>none)
 | n+1=>(zhn (zg3 n).2 n,zgI (zg3 n).1 n)
def zfF (n:Nat):zaf->(List Int)->Option zaf:=(zg3 n).1
def zha (n:Nat):(List zaf)->(List Int)->Option (List zaf):=(zg3 n).2
def zbS (a0:zaj) (a1:zar):Option (Int × zaj):=
 if (decide ((4096:Int)<=(a0.f_.zaJ.length:Int)))=true then
  some ((0:Int),({ a0 with e_:=(161:Int) }:zaj))
 else
  need (a0.f_.zaJ.length+[a1].length<=1073741824) <|
  some ((IntKind.i64.wrap (((a0.f_.zaJ++[a1]).length:Int) - (1:Int))),({ a0 with f_:=({ a0.f_ with zaJ:=(a0.f_.zaJ++[a1]) }:zao) }:zaj))
def zcj (n:Nat) (a1:zac) (a3:(List Int)) (a2:zao):Nat->(List zac)->(List Int)->Int->zaj->Option ((List zac) × (List Int) × zaj)
 | 0,_,_,_,_=>none
 | c9+1,v4,v5,v6,v7=>
   if (decide (v6<(a1.zas.length:Int)))=true then
    ((idxL a1.zas v6).bind fun x15=>
      if (x15.zbg == (4:Int))=true then
       (zjG x15.Var_ a3).bind fun x22=>
       need (v5.length+[x22].length<=1073741824) <|
       some (v4,(v5++[x22]),v7)
      else
       (idxL a2.zaJ v6).bind fun x29=>
       if (x29.za3 == (1:Int))=true then
        (zbT v7).bind fun x35=>
        (zbS x35 x29).bind fun x37=>
        need (v5.length+[x37.1].length<=1073741824) <|
        (zfF n x15 a3).bind fun x44=>
        need (v4.length+[(zac.mk ([108,101,116]:Str) x37.1 (0:Int) [x44] [] [] a1.At_)].length<=1073741824) <|
        some ((v4++[(zac.mk ([108,101,116]:Str) x37.1 (0:Int) [x44] [] [] a1.At_)]),(v5++[x37.1]),x37.2)
       else
        (zbT v7).bind fun x49=>
        (zbS x49 x29).bind fun x51=>
        need (v5.length+[x51.1].length<=1073741824) <|
        (zfF n x15 a3).bind fun x58=>
        need (v4.length+[(zac.mk ([118,97,114]:Str) x51.1 (0:Int) [x58] [] [] a1.At_)].length<=1073741824) <|
        some ((v4++[(zac.mk ([118,97,114]:Str) x51.1 (0:Int) [x58] [] [] a1.At_)]),(v5++[x51.1]),x51.2)).bind fun y14=>
    zcj n a1 a3 a2 c9 y14.1 y14.2.1 (IntKind.i64.wrap (v6+(1:Int))) y14.2.2
   else
    some (v4,v5,v7)
def zeG (n:Nat) (a0:zaj) (a1:zac) (a2:zao) (a3:(List Int)):Option ((List zac) × (List Int) × zaj):=
 (zcj n a1 a3 a2 n [] [] (0:Int) a0).bind fun y8=>
 some (y8.1,y8.2.1,y8.2.2)
def zdG (a0:zaj) (a1:zac) (a2:(List Int)) (a3:zac):Option zac:=
 (idxL a0.p_.zaB a1.zeD).bind fun x4=>
 if (a1.Var_ == (-2:Int))=true then
  if (decide (a3.At_<(0:Int)))=true then
   some ({ a3 with At_:=a1.At_ }:zac)
  else
   some a3
 else
  if (a1.Var_ == (-1:Int))=true then
   some (zac.mk ([118,97,114]:Str) (-1:Int) x4.zaX [] [] [] a1.At_)
  else
   (zjG a1.Var_ a2).bind fun x12=>
   some (zac.mk ([115,101,116]:Str) x12 (0:Int) [] [] [] a1.At_)
def zcq (a0:zaj) (a1:zaf) (a2:zac):Option (zac × zaj):=
 if (decide (a2.Op_=([118,97,114]:Str)))=true then
  (zbS a0 (zar.mk [] a2.zeD (0:Int))).bind fun x5=>
  some (({ a2 with Var_:=x5.1,zeD:=(0:Int),zas:=[a1] }:zac),x5.2)
 else
  some (({ a2 with zeD:=(0:Int),zas:=[a1] }:zac),a0)
def zbE (zbn:zaj->zac->(List Int)->zac->Option ((List zac) × zaj)) (a1:(List zac)) (a2:(List Int)) (a3:zac):Nat->(List zac)->Int->zaj->Option (((List zac) × zaj) ⊕ ((List zac) × zaj))
 | 0,_,_,_=>none
 | c7+1,v3,v4,v5=>
   if (decide (v4<(a1.length:Int)))=true then
    (idxL a1 v4).bind fun x12=>
    if (v5.e_ != (0:Int))=true then
     some (.inr ([],v5))
    else
     (zbn v5 x12 a2 a3).bind fun x19=>
     need (v3.length+x19.1.length<=1073741824) <|
     zbE zbn a1 a2 a3 c7 (v3++x19.1) (IntKind.i64.wrap (v4+(1:Int))) x19.2
   else
    some (.inl (v3,v5))
def zci (zbn:zaj->zac->(List Int)->zac->Option ((List zac) × zaj)) (n:Nat) (a0:zaj) (a1:(List zac)) (a2:(List Int)) (a3:zac):Option ((List zac) × zaj):=
 (zbE zbn a1 a2 a3 n [] (0:Int) a0).bind fun y6=>
 y6.elim (fun y6a=>
  some (y6a.1,y6a.2)) (fun y6a=>
  some y6a)
def zbM (zdR:zaj->zac->(List Int)->zac->Option ((List zac) × zaj)) (zbl:zaj->(List zac)->(List Int)->zac->Option ((List zac) × zaj)) (n:Nat) (a0:zaj) (a1:zac) (a2:(List Int)) (a3:zac):Option ((List zac) × zaj):=
 if (decide (a1.Op_=([99,97,108,108]:Str)))=true then
  (zdR a0 a1 a2 a3).bind fun x4=>
  some (x4.1,x4.2)
 else
  (zbT a0).bind fun x6=>
  if (decide (a1.Op_=([114,101,116,117,114,110]:Str)))=true then
   (idxL a1.zas (0:Int)).bind fun x9=>
   (zfF n x9 a2).bind fun x10=>
   if (decide (a3.At_<(0:Int)))=true then
    (zcq x6 x10 ({ a3 with At_:=a1.At_ }:zac)).bind fun x19=>
    some ([x19.1],x19.2)
   else
    (zcq x6 x10 a3).bind fun x21=>
    some ([x21.1],x21.2)
  else
   (zjG a1.Var_ a2).bind fun x23=>
   (zha n a1.zas a2).bind fun x24=>
   (zbl x6 a1.zba a2 a3).bind fun x27=>
   (zbl x27.2 a1.zeO a2 a3).bind fun x28=>
   some ([({ a1 with Var_:=x23,zas:=x24,zba:=x27.1,zeO:=x28.1 }:zac)],x28.2)
def zch (x5:zao):Nat->(List Int)->Int->zaj->Option ((List Int) × zaj)
 | 0,_,_,_=>none
 | c20+1,v16,v17,v18=>
   if (decide (v17<((x5.zaJ.drop x5.zaE.toNat).length:Int)))=true then
    (idxL (x5.zaJ.drop x5.zaE.toNat) v17).bind fun x25=>
    (zbS v18 x25).bind fun x31=>
    need (v16.length+[x31.1].length<=1073741824) <|
    zch x5 c20 (v16++[x31.1]) (IntKind.i64.wrap (v17+(1:Int))) x31.2
   else
    some (v16,v18)
def zdm (zbl:zaj->(List zac)->(List Int)->zac->Option ((List zac) × zaj)) (n:Nat) (a0:zaj) (a1:zac) (a2:(List Int)) (a3:zac):Option ((List zac) × zaj):=
 (zbT a0).bind fun x3=>
 (idxL x3.p_.zaB a1.zeD).bind fun x5=>
 (zeG n x3 a1 x5 a2).bind fun x11=>
 need ((0:Int)<=x5.zaE/\x5.zaE<=(x5.zaJ.length:Int)) <|
 (zch x5 n x11.2.1 (0:Int) x11.2.2).bind fun y19=>
 if (y19.2.e_ != (0:Int))=true then
  some ([],y19.2)
 else
  (zdG y19.2 a1 a2 a3).bind fun x48=>
  (zbl y19.2 x5.zba y19.1 x48).bind fun x49=>
  need (x11.1.length+x49.1.length<=1073741824) <|
  some ((x11.1++x49.1),x49.2)
def zbZ:Nat->(zaj->(List zac)->(List Int)->zac->Option ((List zac) × zaj)) × (zaj->zac->(List Int)->zac->Option ((List zac) × zaj)) × (zaj->zac->(List Int)->zac->Option ((List zac) × zaj))
 | 0=>(fun _ _ _ _=>none,fun _ _ _ _=>none,fun _ _ _ _=>none)
 | n+1=>(zci (zbZ n).2.1 n,zbM (zbZ n).2.2 (zbZ n).1 n,zdm (zbZ n).1 n)
def zcc (n:Nat):zaj->(List zac)->(List Int)->zac->Option ((List zac) × zaj):=(zbZ n).1
def zbY (n:Nat):zaj->zac->(List Int)->zac->Option ((List zac) × zaj):=(zbZ n).2.1
def zeF (n:Nat):zaj->zac->(List Int)->zac->Option ((List zac) × zaj):=(zbZ n).2.2
def zfG (n:Nat) (a0:zaz) (a1:Int):Option (zao × Int):=
 (if (decide (a1<(0:Int)))=true then
    some true
   else
    some (decide ((a0.zaB.length:Int)<=a1))).bind fun y3=>
 if y3=true then
  some ((zao.mk [] false (0:Int) (0:Int) [] []),(11:Int))
 else
  (idxL a0.zaB a1).bind fun x9=>
  need (x9.zaJ.length<=1073741824) <|
  (zcc n (zaj.mk a0 x9 (0:Int) (0:Int)) x9.zba [] (zac.mk ([114,101,116,117,114,110]:Str) (-1:Int) (0:Int) [] [] [] (-1:Int))).bind fun x17=>
  if (x17.2.e_ != (0:Int))=true then
   some ((zao.mk [] false (0:Int) (0:Int) [] []),x17.2.e_)
  else
   some (({ x17.2.f_ with zba:=x17.1 }:zao),(0:Int))
def zdA (n:Nat):Option Bool:=
 (zgv n ((102::110::32::103::40::120::58::32::117::51::50::41::32::45::62::32::117::51::50::32::123::32::114::101::116::117::114::110::32::120::32::43::32::49::59::32::125::32::102::110::32::102::40::121::58::32::117::51::50::41::32::45::62::32::117::51::50::32::123::32::121::32::61::32::103::40::121::41::59::32::114::101::116::117::114::110::32::121::59::32::125::[]):Str)).bind fun x1=>
 (zfG n x1.1 (1:Int)).bind fun x4=>
 (if (x1.2.1 == (0:Int))=true then
    if (x4.2 == (0:Int))=true then
     if ((x4.1.zaJ.length:Int) == (2:Int))=true then
      if ((x4.1.zba.length:Int) == (3:Int))=true then
       (idxL x4.1.zba (0:Int)).bind fun x12=>
       if (decide (x12.Op_=([118,97,114]:Str)))=true then
        (idxL x4.1.zba (1:Int)).bind fun x19=>
        if (decide (x19.Op_=([115,101,116]:Str)))=true then
         (idxL x4.1.zba (2:Int)).bind fun x26=>
         some (decide (x26.Op_=([114,101,116,117,114,110]:Str)))
        else
         some false
       else
        some false
      else
       some false
     else
      some false
    else
     some false
   else
    some false).bind fun y7=>
 some y7
def zcg (zbP:(List zaf)->Option (List zal)) (a0:(List zaf)):Nat->(List zal)->Int->Option (List zal)
 | 0,_,_=>none
 | c5+1,v2,v3=>
   if (decide (v3<(a0.length:Int)))=true then
    (idxL a0 v3).bind fun x10=>
    need (([61]:Str).length+x10.Op_.length<=4611686018427387904) <|
    need (v2.length+[(zal.mk (([61]:Str)++x10.Op_) [] x10.zbg (IntKind.i64.wrap x10.N_) x10.Var_ (x10.zas.length:Int) (0:Int) x10.At_)].length<=1073741824) <|
    (zbP x10.zas).bind fun x21=>
    need ((v2++[(zal.mk (([61]:Str)++x10.Op_) [] x10.zbg (IntKind.i64.wrap x10.N_) x10.Var_ (x10.zas.length:Int) (0:Int) x10.At_)]).length+x21.length<=1073741824) <|
    zcg zbP a0 c5 ((v2++[(zal.mk (([61]:Str)++x10.Op_) [] x10.zbg (IntKind.i64.wrap x10.N_) x10.Var_ (x10.zas.length:Int) (0:Int) x10.At_)])++x21) (IntKind.i64.wrap (v3+(1:Int)))
   else
    some v2
def zdi (zbP:(List zaf)->Option (List zal)) (n:Nat) (a0:(List zaf)):Option (List zal):=
 (zcg zbP a0 n [] (0:Int)).bind fun y4=>
 some y4
def zc2:Nat->(List zaf)->Option (List zal)
 | 0=>fun _=>none
 | n+1=>zdi (zc2 n) n
def zcf (zbC:(List zac)->Option (List zal)) (n:Nat) (a0:(List zac)):Nat->(List zal)->Int->Option (List zal)
 | 0,_,_=>none
 | c5+1,v2,v3=>
   if (decide (v3<(a0.length:Int)))=true then
    (idxL a0 v3).bind fun x10=>
    need (v2.length+[(zal.mk x10.Op_ [] x10.Var_ x10.zeD (x10.zas.length:Int) (x10.zba.length:Int) (x10.zeO.length:Int) x10.At_)].length<=1073741824) <|
    (zc2 n x10.zas).bind fun x19=>
    need ((v2++[(zal.mk x10.Op_ [] x10.Var_ x10.zeD (x10.zas.length:Int) (x10.zba.length:Int) (x10.zeO.length:Int) x10.At_)]).length+x19.length<=1073741824) <|
    (zbC x10.zba).bind fun x23=>
    need (((v2++[(zal.mk x10.Op_ [] x10.Var_ x10.zeD (x10.zas.length:Int) (x10.zba.length:Int) (x10.zeO.length:Int) x10.At_)])++x19).length+x23.length<=1073741824) <|
    (zbC x10.zeO).bind fun x27=>
    need ((((v2++[(zal.mk x10.Op_ [] x10.Var_ x10.zeD (x10.zas.length:Int) (x10.zba.length:Int) (x10.zeO.length:Int) x10.At_)])++x19)++x23).length+x27.length<=1073741824) <|
    zcf zbC n a0 c5 ((((v2++[(zal.mk x10.Op_ [] x10.Var_ x10.zeD (x10.zas.length:Int) (x10.zba.length:Int) (x10.zeO.length:Int) x10.At_)])++x19)++x23)++x27) (IntKind.i64.wrap (v3+(1:Int)))
   else
    some v2
def zdh (zbC:(List zac)->Option (List zal)) (n:Nat) (a0:(List zac)):Option (List zal):=
 (zcf zbC n a0 n [] (0:Int)).bind fun y4=>
 some y4
def zcH:Nat->(List zac)->Option (List zal)
 | 0=>fun _=>none
 | n+1=>zdh (zcH n) n
def zct (a0:zao):Nat->(List zal)->Int->Option (List zal)
 | 0,_,_=>none
 | c8+1,v5,v6=>
   if (decide (v6<(a0.zaJ.length:Int)))=true then
    (idxL a0.zaJ v6).bind fun x13=>
    need (v5.length+[(zal.mk ([118]:Str) x13.zco x13.za3 x13.zfQ (0:Int) (0:Int) (0:Int) (0:Int))].length<=1073741824) <|
    zct a0 c8 (v5++[(zal.mk ([118]:Str) x13.zco x13.za3 x13.zfQ (0:Int) (0:Int) (0:Int) (0:Int))]) (IntKind.i64.wrap (v6+(1:Int)))
   else
    some v5
def zcs (a0:zao):Nat->(List zal)->Int->Option (List zal)
 | 0,_,_=>none
 | c34+1,v31,v32=>
   if (decide (v32<(a0.zaJ.length:Int)))=true then
    (idxL a0.zaJ v32).bind fun x39=>
    need (v31.length+[(zal.mk ([118]:Str) x39.zco x39.za3 x39.zfQ (0:Int) (0:Int) (0:Int) (0:Int))].length<=1073741824) <|
    zcs a0 c34 (v31++[(zal.mk ([118]:Str) x39.zco x39.za3 x39.zfQ (0:Int) (0:Int) (0:Int) (0:Int))]) (IntKind.i64.wrap (v32+(1:Int)))
   else
    some v31
def zdt (n:Nat) (a0:zao):Option (List zal):=
 if a0.zbr=true then
  (zct a0 n ([(zal.mk ([102,110]:Str) a0.zco (1:Int) a0.zaX a0.zaE (a0.zaJ.length:Int) (a0.zba.length:Int) (0:Int))]) (0:Int)).bind fun y7=>
  (zcH n a0.zba).bind fun x26=>
  need (y7.length+x26.length<=1073741824) <|
  some (y7++x26)
 else
  (zcs a0 n ([(zal.mk ([102,110]:Str) a0.zco (0:Int) a0.zaX a0.zaE (a0.zaJ.length:Int) (a0.zba.length:Int) (0:Int))]) (0:Int)).bind fun y33=>
  (zcH n a0.zba).bind fun x52=>
  need (y33.length+x52.length<=1073741824) <|
  some (y33++x52)
def zfw (zen:(List zac)->Option Int) (a0:(List zac)):Nat->Int->Int->Option Int
 | 0,_,_=>none
 | c5+1,v2,v3=>
   if (decide (v3<(a0.length:Int)))=true then
    (idxL a0 v3).bind fun x10=>
    (zen x10.zba).bind fun x16=>
    (zen x10.zeO).bind fun x17=>
    zfw zen a0 c5 (IntKind.i64.wrap (v2+(IntKind.i64.wrap ((IntKind.i64.wrap ((1:Int)+x16))+x17)))) (IntKind.i64.wrap (v3+(1:Int)))
   else
    some v2
def zho (zen:(List zac)->Option Int) (n:Nat) (a0:(List zac)):Option Int:=
 (zfw zen a0 n (0:Int) (0:Int)).bind fun y4=>
 some y4
def zhp:Nat->(List zac)->Option Int
 | 0=>fun _=>none
 | n+1=>zho (zhp n) n
def zbL (x16:(List zal)) (x17:(List zal)):Nat->Int->Option (Unit ⊕ Bool)
 | 0,_=>none
 | c29+1,v27=>
   if (decide (v27<(x16.length:Int)))=true then
    (idxL x16 v27).bind fun x34=>
    (idxL x17 v27).bind fun x35=>
    if (!((decide (x34.Tag_=x35.Tag_)) && ((decide (x34.za5=x35.za5)) && ((x34.A_ == x35.A_) && ((x34.B_ == x35.B_) && ((x34.C_ == x35.C_) && ((x34.D_ == x35.D_) && ((x34.E_ == x35.E_) && (x34.At_ == x35.At_)))))))))=true then
     some (.inr false)
    else
     zbL x16 x17 c29 (IntKind.i64.wrap (v27+(1:Int)))
   else
    some (.inl ())
def zcV (n:Nat) (a0:Str) (a1:Int):Option Bool:=
 (zdA n).bind fun x1=>
 if (!x1)=true then
  some false
 else
  if (decide ((2000:Int)<(a0.length:Int)))=true then
   some true
  else
   (zgv n a0).bind fun x5=>
   if (x5.2.1 != (0:Int))=true then
    some true
   else
    (zfG n x5.1 a1).bind fun x9=>
    if (x9.2 != (0:Int))=true then
     some true
    else
     (zfG n (zaz.mk [x9.1]) (0:Int)).bind fun x13=>
     (zdt n x9.1).bind fun x16=>
     (zdt n x13.1).bind fun x17=>
     (if (x13.2 != (0:Int))=true then
        some true
       else
        some ((x16.length:Int) != (x17.length:Int))).bind fun y20=>
     if y20=true then
      some false
     else
      (zbL x16 x17 n (0:Int)).bind fun y28=>
      y28.elim (fun y28a=>
       ((zhp n x9.1.zba).bind fun x53=>
         if (decide (x53<=(16384:Int)))=true then
          some (decide ((x9.1.zaJ.length:Int)<=(4096:Int)))
         else
          some false).bind fun y52=>
       some y52) (fun y28a=>
       some y28a)
end Go.Proofs.YtldnmmnnohnpkaaGreatDoor.Abs
