/-
 Plain models of functions. Written by a program of mine (gen.py) for this claim.
-/
import Derived.Test.YtldnmmnnohnpkaaGreatDoorFpGMm
namespace Go.Proofs.YtldnmmnnohnpkaaGreatDoor.Abs
open Go.RowKit
set_option linter.unusedVariables false
structure zaj where
 p_:zaB
 f_:zap
 zco:Int
 e_:Int
structure zal where
 Tag_:Str
 za7:Str
 A_:Int
 B_:Int
 C_:Int
 D_:Int
 E_:Int
 At_:Int
def zal.C (x:zal):List V:=[.lit (.string (bs x.Tag_)),.lit (.string (bs x.za7)),.lit (.int .i64 x.A_),.lit (.int .i64 x.B_),.lit (.int .i64 x.C_),.lit (.int .i64 x.D_),.lit (.int .i64 x.E_),.lit (.int .i64 x.At_)]
@[go_sem] theorem zal.C_eq (x:zal):zal.C x=[.lit (.string (bs x.Tag_)),.lit (.string (bs x.za7)),.lit (.int .i64 x.A_),.lit (.int .i64 x.B_),.lit (.int .i64 x.C_),.lit (.int .i64 x.D_),.lit (.int .i64 x.E_),.lit (.int .i64 x.At_)]:=_root_.id rfl
def zbU (a0:zaj):Option zaj:=
 if (decide ((16384:Int)<(IntKind.i64.wrap (a0.zco+(1:Int)))))=true then
  some ({ a0 with zco:=(IntKind.i64.wrap (a0.zco+(1:Int))),e_:=(161:Int) }:zaj)
 else
  some ({ a0 with zco:=(IntKind.i64.wrap (a0.zco+(1:Int))) }:zaj)
def zjM (a0:Int) (a1:(List Int)):Option Int:=
 (if (decide (a0<(0:Int)))=true then
    some true
   else
    some (decide ((a1.length:Int)<=a0))).bind fun y1=>
 if y1=true then
  some a0
 else
  (idxL a1 a0).bind fun x7=>
  some x7
def zhu (zgC:(List zaf)->(List Int)->Option (List zaf)) (n:Nat) (a0:zaf) (a1:(List Int)):Option zaf:=
 (zjM a0.Var_ a1).bind fun x3=>
 (zgC a0.zas a1).bind fun x5=>
 some ({ a0 with Var_:=x3,zas:=x5 }:zaf)
def zfb (zeG:zaf->(List Int)->Option zaf) (a0:(List zaf)) (a1:(List Int)):Nat->(List zaf)->Int->Option (List zaf)
 | 0,_,_=>none
 | c5+1,v2,v3=>
   if (decide (v3<(a0.length:Int)))=true then
    (idxL a0 v3).bind fun x10=>
    (zeG x10 a1).bind fun x16=>
    need (v2.length+[x16].length<=1073741824) <|
    zfb zeG a0 a1 c5 (v2++[x16]) (IntKind.i64.wrap (v3+(1:Int)))
   else
    some v2
def zgM (zeG:zaf->(List Int)->Option zaf) (n:Nat) (a0:(List zaf)) (a1:(List Int)):Option (List zaf):=
 (zfb zeG a0 a1 n [] (0:Int)).bind fun y4=>
 some y4
def zha:Nat->(zaf->(List Int)->Option zaf) × ((List zaf)->(List Int)->Option (List zaf))
 | 0=>(fun _ _=>none,fun _ _=>none)
 | n+1=>(zhu (zha n).2 n,zgM (zha n).1 n)
def zfJ (n:Nat):zaf->(List Int)->Option zaf:=(zha n).1
def zhh (n:Nat):(List zaf)->(List Int)->Option (List zaf):=(zha n).2
def zbT (a0:zaj) (a1:zar):Option (Int × zaj):=
 if (decide ((4096:Int)<=(a0.f_.zaJ.length:Int)))=true then
  some ((0:Int),({ a0 with e_:=(161:Int) }:zaj))
 else
  need (a0.f_.zaJ.length+[a1].length<=1073741824) <|
  some ((IntKind.i64.wrap (((a0.f_.zaJ++[a1]).length:Int) - (1:Int))),({ a0 with f_:=({ a0.f_ with zaJ:=(a0.f_.zaJ++[a1]) }:zap) }:zaj))
def zcl (n:Nat) (a1:zac) (a3:(List Int)) (a2:zap):Nat->(List zac)->(List Int)->Int->zaj->Option ((List zac) × (List Int) × zaj)
 | 0,_,_,_,_=>none
 | c9+1,v4,v5,v6,v7=>
   if (decide (v6<(a1.zas.length:Int)))=true then
    ((idxL a1.zas v6).bind fun x15=>
      if (x15.zbi == (4:Int))=true then
       (zjM x15.Var_ a3).bind fun x22=>
       need (v5.length+[x22].length<=1073741824) <|
       some (v4,(v5++[x22]),v7)
      else
       (idxL a2.zaJ v6).bind fun x29=>
       if (x29.za4 == (1:Int))=true then
        (zbU v7).bind fun x35=>
        (zbT x35 x29).bind fun x37=>
        need (v5.length+[x37.1].length<=1073741824) <|
        (zfJ n x15 a3).bind fun x44=>
        need (v4.length+[(zac.mk ([108,101,116]:Str) x37.1 (0:Int) [x44] [] [] a1.At_)].length<=1073741824) <|
        some ((v4++[(zac.mk ([108,101,116]:Str) x37.1 (0:Int) [x44] [] [] a1.At_)]),(v5++[x37.1]),x37.2)
       else
        (zbU v7).bind fun x49=>
        (zbT x49 x29).bind fun x51=>
        need (v5.length+[x51.1].length<=1073741824) <|
        (zfJ n x15 a3).bind fun x58=>
        need (v4.length+[(zac.mk ([118,97,114]:Str) x51.1 (0:Int) [x58] [] [] a1.At_)].length<=1073741824) <|
        some ((v4++[(zac.mk ([118,97,114]:Str) x51.1 (0:Int) [x58] [] [] a1.At_)]),(v5++[x51.1]),x51.2)).bind fun y14=>
    zcl n a1 a3 a2 c9 y14.1 y14.2.1 (IntKind.i64.wrap (v6+(1:Int))) y14.2.2
   else
    some (v4,v5,v7)
def zeI (n:Nat) (a0:zaj) (a1:zac) (a2:zap) (a3:(List Int)):Option ((List zac) × (List Int) × zaj):=
 (zcl n a1 a3 a2 n [] [] (0:Int) a0).bind fun y8=>
 some (y8.1,y8.2.1,y8.2.2)
def zdI (a0:zaj) (a1:zac) (a2:(List Int)) (a3:zac):Option zac:=
 (idxL a0.p_.zaz a1.zeF).bind fun x4=>
 if (a1.Var_ == (-2:Int))=true then
  if (decide (a3.At_<(0:Int)))=true then
   some ({ a3 with At_:=a1.At_ }:zac)
  else
   some a3
 else
  if (a1.Var_ == (-1:Int))=true then
   some (zac.mk ([118,97,114]:Str) (-1:Int) x4.zaV [] [] [] a1.At_)
  else
   (zjM a1.Var_ a2).bind fun x12=>
   some (zac.mk ([115,101,116]:Str) x12 (0:Int) [] [] [] a1.At_)
def zcr (a0:zaj) (a1:zaf) (a2:zac):Option (zac × zaj):=
 if (decide (a2.Op_=([118,97,114]:Str)))=true then
  (zbT a0 (zar.mk [] a2.zeF (0:Int))).bind fun x5=>
  some (({ a2 with Var_:=x5.1,zeF:=(0:Int),zas:=[a1] }:zac),x5.2)
 else
  some (({ a2 with zeF:=(0:Int),zas:=[a1] }:zac),a0)
def zbE (zbo:zaj->zac->(List Int)->zac->Option ((List zac) × zaj)) (a1:(List zac)) (a2:(List Int)) (a3:zac):Nat->(List zac)->Int->zaj->Option (((List zac) × zaj) ⊕ ((List zac) × zaj))
 | 0,_,_,_=>none
 | c7+1,v3,v4,v5=>
   if (decide (v4<(a1.length:Int)))=true then
    (idxL a1 v4).bind fun x12=>
    if (v5.e_ != (0:Int))=true then
     some (.inr ([],v5))
    else
     (zbo v5 x12 a2 a3).bind fun x19=>
     need (v3.length+x19.1.length<=1073741824) <|
     zbE zbo a1 a2 a3 c7 (v3++x19.1) (IntKind.i64.wrap (v4+(1:Int))) x19.2
   else
    some (.inl (v3,v5))
def zck (zbo:zaj->zac->(List Int)->zac->Option ((List zac) × zaj)) (n:Nat) (a0:zaj) (a1:(List zac)) (a2:(List Int)) (a3:zac):Option ((List zac) × zaj):=
 (zbE zbo a1 a2 a3 n [] (0:Int) a0).bind fun y6=>
 y6.elim (fun y6a=>
  some (y6a.1,y6a.2)) (fun y6a=>
  some y6a)
def zbM (zdT:zaj->zac->(List Int)->zac->Option ((List zac) × zaj)) (zbm:zaj->(List zac)->(List Int)->zac->Option ((List zac) × zaj)) (n:Nat) (a0:zaj) (a1:zac) (a2:(List Int)) (a3:zac):Option ((List zac) × zaj):=
 if (decide (a1.Op_=([99,97,108,108]:Str)))=true then
  (zdT a0 a1 a2 a3).bind fun x4=>
  some (x4.1,x4.2)
 else
  (zbU a0).bind fun x6=>
  if (decide (a1.Op_=([114,101,116,117,114,110]:Str)))=true then
   (idxL a1.zas (0:Int)).bind fun x9=>
   (zfJ n x9 a2).bind fun x10=>
   if (decide (a3.At_<(0:Int)))=true then
    (zcr x6 x10 ({ a3 with At_:=a1.At_ }:zac)).bind fun x19=>
    some ([x19.1],x19.2)
   else
    (zcr x6 x10 a3).bind fun x21=>
    some ([x21.1],x21.2)
  else
   (zjM a1.Var_ a2).bind fun x23=>
   (zhh n a1.zas a2).bind fun x24=>
   (zbm x6 a1.za0 a2 a3).bind fun x27=>
   (zbm x27.2 a1.zem a2 a3).bind fun x28=>
   some ([({ a1 with Var_:=x23,zas:=x24,za0:=x27.1,zem:=x28.1 }:zac)],x28.2)
def zcj (x5:zap):Nat->(List Int)->Int->zaj->Option ((List Int) × zaj)
 | 0,_,_,_=>none
 | c20+1,v16,v17,v18=>
   if (decide (v17<((x5.zaJ.drop x5.zaC.toNat).length:Int)))=true then
    (idxL (x5.zaJ.drop x5.zaC.toNat) v17).bind fun x25=>
    (zbT v18 x25).bind fun x31=>
    need (v16.length+[x31.1].length<=1073741824) <|
    zcj x5 c20 (v16++[x31.1]) (IntKind.i64.wrap (v17+(1:Int))) x31.2
   else
    some (v16,v18)
def zdo (zbm:zaj->(List zac)->(List Int)->zac->Option ((List zac) × zaj)) (n:Nat) (a0:zaj) (a1:zac) (a2:(List Int)) (a3:zac):Option ((List zac) × zaj):=
 (zbU a0).bind fun x3=>
 (idxL x3.p_.zaz a1.zeF).bind fun x5=>
 (zeI n x3 a1 x5 a2).bind fun x11=>
 need ((0:Int)<=x5.zaC/\x5.zaC<=(x5.zaJ.length:Int)) <|
 (zcj x5 n x11.2.1 (0:Int) x11.2.2).bind fun y19=>
 if (y19.2.e_ != (0:Int))=true then
  some ([],y19.2)
 else
  (zdI y19.2 a1 a2 a3).bind fun x48=>
  (zbm y19.2 x5.za0 y19.1 x48).bind fun x49=>
  need (x11.1.length+x49.1.length<=1073741824) <|
  some ((x11.1++x49.1),x49.2)
def zbZ:Nat->(zaj->(List zac)->(List Int)->zac->Option ((List zac) × zaj)) × (zaj->zac->(List Int)->zac->Option ((List zac) × zaj)) × (zaj->zac->(List Int)->zac->Option ((List zac) × zaj))
 | 0=>(fun _ _ _ _=>none,fun _ _ _ _=>none,fun _ _ _ _=>none)
 | n+1=>(zck (zbZ n).2.1 n,zbM (zbZ n).2.2 (zbZ n).1 n,zdo (zbZ n).1 n)
def zce (n:Nat):zaj->(List zac)->(List Int)->zac->Option ((List zac) × zaj):=(zbZ n).1
def zbY (n:Nat):zaj->zac->(List Int)->zac->Option ((List zac) × zaj):=(zbZ n).2.1
def zeH (n:Nat):zaj->zac->(List Int)->zac->Option ((List zac) × zaj):=(zbZ n).2.2
def zgN (n:Nat) (a0:zaB) (a1:Int):Option (zap × Int):=
 (if (decide (a1<(0:Int)))=true then
    some true
   else
    some (decide ((a0.zaz.length:Int)<=a1))).bind fun y3=>
 if y3=true then
  some ((zap.mk [] false (0:Int) (0:Int) [] []),(11:Int))
 else
  (idxL a0.zaz a1).bind fun x9=>
  need (x9.zaJ.length<=1073741824) <|
  (zce n (zaj.mk a0 x9 (0:Int) (0:Int)) x9.za0 [] (zac.mk ([114,101,116,117,114,110]:Str) (-1:Int) (0:Int) [] [] [] (-1:Int))).bind fun x17=>
  if (x17.2.e_ != (0:Int))=true then
   some ((zap.mk [] false (0:Int) (0:Int) [] []),x17.2.e_)
  else
   some (({ x17.2.f_ with za0:=x17.1 }:zap),(0:Int))
def zdC (n:Nat):Option Bool:=
 (zgz n ((102::110::32::103::40::120::58::32::117::51::50::41::32::45::62::32::117::51::50::32::123::32::114::101::116::117::114::110::32::120::32::43::32::49::59::32::125::32::102::110::32::102::40::121::58::32::117::51::50::41::32::45::62::32::117::51::50::32::123::32::121::32::61::32::103::40::121::41::59::32::114::101::116::117::114::110::32::121::59::32::125::[]):Str)).bind fun x1=>
 (zgN n x1.1 (1:Int)).bind fun x4=>
 (if (x1.2.1 == (0:Int))=true then
    if (x4.2 == (0:Int))=true then
     if ((x4.1.zaJ.length:Int) == (2:Int))=true then
      if ((x4.1.za0.length:Int) == (3:Int))=true then
       (idxL x4.1.za0 (0:Int)).bind fun x12=>
       if (decide (x12.Op_=([118,97,114]:Str)))=true then
        (idxL x4.1.za0 (1:Int)).bind fun x19=>
        if (decide (x19.Op_=([115,101,116]:Str)))=true then
         (idxL x4.1.za0 (2:Int)).bind fun x26=>
         some (decide (x26.Op_=([114,101,116,117,114,110]:Str)))
        else
         some false
       else
        some false
      else
       some false
     else
      some false
    else
     some false
   else
    some false).bind fun y7=>
 some y7
def zci (zbP:(List zaf)->Option (List zal)) (a0:(List zaf)):Nat->(List zal)->Int->Option (List zal)
 | 0,_,_=>none
 | c5+1,v2,v3=>
   if (decide (v3<(a0.length:Int)))=true then
    (idxL a0 v3).bind fun x10=>
    need (([61]:Str).length+x10.Op_.length<=4611686018427387904) <|
    need (v2.length+[(zal.mk (([61]:Str)++x10.Op_) [] x10.zbi (IntKind.i64.wrap x10.N_) x10.Var_ (x10.zas.length:Int) (0:Int) x10.At_)].length<=1073741824) <|
    (zbP x10.zas).bind fun x21=>
    need ((v2++[(zal.mk (([61]:Str)++x10.Op_) [] x10.zbi (IntKind.i64.wrap x10.N_) x10.Var_ (x10.zas.length:Int) (0:Int) x10.At_)]).length+x21.length<=1073741824) <|
    zci zbP a0 c5 ((v2++[(zal.mk (([61]:Str)++x10.Op_) [] x10.zbi (IntKind.i64.wrap x10.N_) x10.Var_ (x10.zas.length:Int) (0:Int) x10.At_)])++x21) (IntKind.i64.wrap (v3+(1:Int)))
   else
    some v2
def zdk (zbP:(List zaf)->Option (List zal)) (n:Nat) (a0:(List zaf)):Option (List zal):=
 (zci zbP a0 n [] (0:Int)).bind fun y4=>
 some y4
def zc4:Nat->(List zaf)->Option (List zal)
 | 0=>fun _=>none
 | n+1=>zdk (zc4 n) n
def zch (zbC:(List zac)->Option (List zal)) (n:Nat) (a0:(List zac)):Nat->(List zal)->Int->Option (List zal)
 | 0,_,_=>none
 | c5+1,v2,v3=>
   if (decide (v3<(a0.length:Int)))=true then
    (idxL a0 v3).bind fun x10=>
    need (v2.length+[(zal.mk x10.Op_ [] x10.Var_ x10.zeF (x10.zas.length:Int) (x10.za0.length:Int) (x10.zem.length:Int) x10.At_)].length<=1073741824) <|
    (zc4 n x10.zas).bind fun x19=>
    need ((v2++[(zal.mk x10.Op_ [] x10.Var_ x10.zeF (x10.zas.length:Int) (x10.za0.length:Int) (x10.zem.length:Int) x10.At_)]).length+x19.length<=1073741824) <|
    (zbC x10.za0).bind fun x23=>
    need (((v2++[(zal.mk x10.Op_ [] x10.Var_ x10.zeF (x10.zas.length:Int) (x10.za0.length:Int) (x10.zem.length:Int) x10.At_)])++x19).length+x23.length<=1073741824) <|
    (zbC x10.zem).bind fun x27=>
    need ((((v2++[(zal.mk x10.Op_ [] x10.Var_ x10.zeF (x10.zas.length:Int) (x10.za0.length:Int) (x10.zem.length:Int) x10.At_)])++x19)++x23).length+x27.length<=1073741824) <|
    zch zbC n a0 c5 ((((v2++[(zal.mk x10.Op_ [] x10.Var_ x10.zeF (x10.zas.length:Int) (x10.za0.length:Int) (x10.zem.length:Int) x10.At_)])++x19)++x23)++x27) (IntKind.i64.wrap (v3+(1:Int)))
   else
    some v2
def zdj (zbC:(List zac)->Option (List zal)) (n:Nat) (a0:(List zac)):Option (List zal):=
 (zch zbC n a0 n [] (0:Int)).bind fun y4=>
 some y4
def zcH:Nat->(List zac)->Option (List zal)
 | 0=>fun _=>none
 | n+1=>zdj (zcH n) n
def zcu (a0:zap):Nat->(List zal)->Int->Option (List zal)
 | 0,_,_=>none
 | c8+1,v5,v6=>
   if (decide (v6<(a0.zaJ.length:Int)))=true then
    (idxL a0.zaJ v6).bind fun x13=>
    need (v5.length+[(zal.mk ([118]:Str) x13.zb5 x13.za4 x13.zfS (0:Int) (0:Int) (0:Int) (0:Int))].length<=1073741824) <|
    zcu a0 c8 (v5++[(zal.mk ([118]:Str) x13.zb5 x13.za4 x13.zfS (0:Int) (0:Int) (0:Int) (0:Int))]) (IntKind.i64.wrap (v6+(1:Int)))
   else
    some v5
def zct (a0:zap):Nat->(List zal)->Int->Option (List zal)
 | 0,_,_=>none
 | c34+1,v31,v32=>
   if (decide (v32<(a0.zaJ.length:Int)))=true then
    (idxL a0.zaJ v32).bind fun x39=>
    need (v31.length+[(zal.mk ([118]:Str) x39.zb5 x39.za4 x39.zfS (0:Int) (0:Int) (0:Int) (0:Int))].length<=1073741824) <|
    zct a0 c34 (v31++[(zal.mk ([118]:Str) x39.zb5 x39.za4 x39.zfS (0:Int) (0:Int) (0:Int) (0:Int))]) (IntKind.i64.wrap (v32+(1:Int)))
   else
    some v31
def zdv (n:Nat) (a0:zap):Option (List zal):=
 if a0.zbn=true then
  (zcu a0 n ([(zal.mk ([102,110]:Str) a0.zb5 (1:Int) a0.zaV a0.zaC (a0.zaJ.length:Int) (a0.za0.length:Int) (0:Int))]) (0:Int)).bind fun y7=>
  (zcH n a0.za0).bind fun x26=>
  need (y7.length+x26.length<=1073741824) <|
  some (y7++x26)
 else
  (zct a0 n ([(zal.mk ([102,110]:Str) a0.zb5 (0:Int) a0.zaV a0.zaC (a0.zaJ.length:Int) (a0.za0.length:Int) (0:Int))]) (0:Int)).bind fun y33=>
  (zcH n a0.za0).bind fun x52=>
  need (y33.length+x52.length<=1073741824) <|
  some (y33++x52)
def zfA (zep:(List zac)->Option Int) (a0:(List zac)):Nat->Int->Int->Option Int
 | 0,_,_=>none
 | c5+1,v2,v3=>
   if (decide (v3<(a0.length:Int)))=true then
    (idxL a0 v3).bind fun x10=>
    (zep x10.za0).bind fun x16=>
    (zep x10.zem).bind fun x17=>
    zfA zep a0 c5 (IntKind.i64.wrap (v2+(IntKind.i64.wrap ((IntKind.i64.wrap ((1:Int)+x16))+x17)))) (IntKind.i64.wrap (v3+(1:Int)))
   else
    some v2
def zhv (zep:(List zac)->Option Int) (n:Nat) (a0:(List zac)):Option Int:=
 (zfA zep a0 n (0:Int) (0:Int)).bind fun y4=>
 some y4
def zhw:Nat->(List zac)->Option Int
 | 0=>fun _=>none
 | n+1=>zhv (zhw n) n
def zfd (zcW:(List zac)->Option Int) (a0:(List zac)):Nat->Int->Int->Option Int
 | 0,_,_=>none
 | c5+1,v2,v3=>
   if (decide (v3<(a0.length:Int)))=true then
    ((idxL a0 v3).bind fun x11=>
      if (decide (x11.Op_=([99,97,108,108]:Str)))=true then
       (zcW x11.za0).bind fun x18=>
       (zcW x11.zem).bind fun x19=>
       some (IntKind.i64.wrap ((IntKind.i64.wrap (v2+(1:Int)))+(IntKind.i64.wrap (x18+x19))))
      else
       (zcW x11.za0).bind fun x22=>
       (zcW x11.zem).bind fun x23=>
       some (IntKind.i64.wrap (v2+(IntKind.i64.wrap (x22+x23))))).bind fun y10=>
    zfd zcW a0 c5 y10 (IntKind.i64.wrap (v3+(1:Int)))
   else
    some v2
def zgO (zcW:(List zac)->Option Int) (n:Nat) (a0:(List zac)):Option Int:=
 (zfd zcW a0 n (0:Int) (0:Int)).bind fun y4=>
 some y4
def zgv:Nat->(List zac)->Option Int
 | 0=>fun _=>none
 | n+1=>zgO (zgv n) n
def zbL (x39:(List zal)) (x40:(List zal)):Nat->Bool->Int->Option Bool
 | 0,_,_=>none
 | c56+1,v53,v54=>
   if (decide (v54<(min (x39.length:Int) (x40.length:Int))))=true then
    (if v53=true then
       (idxL x39 v54).bind fun x63=>
       (idxL x40 v54).bind fun x64=>
       some ((decide (x63.Tag_=x64.Tag_)) && ((decide (x63.za7=x64.za7)) && ((x63.A_ == x64.A_) && ((x63.B_ == x64.B_) && ((x63.C_ == x64.C_) && ((x63.D_ == x64.D_) && ((x63.E_ == x64.E_) && (x63.At_ == x64.At_))))))))
      else
       some false).bind fun y61=>
    zbL x39 x40 c56 y61 (IntKind.i64.wrap (v54+(1:Int)))
   else
    some v53
def zcV (n:Nat) (a0:Str) (a1:Int):Option Bool:=
 (zdC n).bind fun x1=>
 if (!x1)=true then
  some false
 else
  if (decide ((2000:Int)<(a0.length:Int)))=true then
   some true
  else
   (zgz n a0).bind fun x5=>
   (if (x5.2.1 != (0:Int))=true then
      some true
     else
      if (decide (a1<(0:Int)))=true then
       some true
      else
       some (decide ((x5.1.zaz.length:Int)<=a1))).bind fun y8=>
   if y8=true then
    some true
   else
    (zgN n x5.1 a1).bind fun x15=>
    if (x15.2 != (0:Int))=true then
     some (x15.2 == (161:Int))
    else
     (idxL x5.1.zaz a1).bind fun x19=>
     ((zgv n x15.1.za0).bind fun x26=>
       if (x26 != (0:Int))=true then
        some true
       else
        if (decide (x15.1.zb5 ≠ x19.zb5))=true then
         some true
        else
         if (x15.1.zaC != x19.zaC)=true then
          some true
         else
          if (x15.1.zaV != x19.zaV)=true then
           some true
          else
           some (x15.1.zbn != x19.zbn)).bind fun y25=>
     if y25=true then
      some false
     else
      (zgv n x19.za0).bind fun x36=>
      if (decide ((0:Int)<x36))=true then
       some true
      else
       (zdv n x15.1).bind fun x39=>
       (zdv n x19).bind fun x40=>
       (if ((x39.length:Int) == (x40.length:Int))=true then
          (zhw n x15.1.za0).bind fun x45=>
          (zhw n x19.za0).bind fun x46=>
          some (x45 == x46)
         else
          some false).bind fun y43=>
       (zbL x39 x40 n y43 (0:Int)).bind fun y55=>
       some y55
end Go.Proofs.YtldnmmnnohnpkaaGreatDoor.Abs
