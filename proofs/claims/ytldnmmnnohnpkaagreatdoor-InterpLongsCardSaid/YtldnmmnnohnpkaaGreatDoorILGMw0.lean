/-
 Walks: each function does what its model says. Written by a program of mine (gen.py) for this claim.
-/
import Derived.Test.YtldnmmnnohnpkaaGreatDoorILGMm
import Derived.Test.YtldnmmnnohnpkaaGreatDoorILFacts
import Derived.Test.YtldnmmnnohnpkaaGreatDoorILH1
import Derived.Test.YtldnmmnnohnpkaaGreatDoorILH4
namespace Go.Proofs.YtldnmmnnohnpkaaGreatDoor.Abs
set_option linter.unusedVariables false
open Go.RowKit
set_option maxRecDepth 10000
def znc (f:Int->Option Bool):Prop:=∀a0 r,f a0=some r->∀(q:Pa) (m:M) (vs:List V),vs.map V.weak1=[.lit (.int .u8 a0)]->SC Tryz.prog 138 vs q m (fun v m'=>v=.lit (.bool r)/\m'=m)
theorem zmB:znc (zlk):=by
 intro a0 r h q m vs hv;refine SC.weak ?_;rw [hv];refine SC_w Tryz.func138 rfl (fun xs w=>Tryz.call138 xs w) Tryz.ntmps138 (by kernel_rfl) Tryz.results138 ?_;unfold zlk at h;refine zan fun _ z=>?_;simp only [go_sem];apply z;refine zah ?_;obtain ⟨y1,hy1,h⟩:=bind_some h;refine zbf 16 [] [] rfl (fun E' m'=>E' 2=.lit (.bool y1)/\m'.gl=m.gl/\m.back q m'=m) ?_ ?_
 ·rcases za9 (a0 == (32:Int)) with c2 | c2
  ·replace hy1:=zaA c2 hy1;refine zao fun _ z=>?_;simp only [go_sem,seval,c2];apply z;obtain rfl:=zag hy1;refine ⟨by decide,?_⟩;simp only [go_sem,↓reduceIte,zak]
  ·replace hy1:=zaB c2 hy1
   rcases za9 (a0 == (9:Int)) with c3 | c3
   ·replace hy1:=zaA c3 hy1;refine zao fun _ z=>?_;simp only [go_sem,seval,c2,c3];apply z;obtain rfl:=zag hy1;refine ⟨by decide,?_⟩;simp only [go_sem,↓reduceIte,zak]
   ·replace hy1:=zaB c3 hy1
    rcases za9 (a0 == (13:Int)) with c4 | c4
    ·replace hy1:=zaA c4 hy1;refine zao fun _ z=>?_;simp only [go_sem,seval,c2,c3,c4];apply z;obtain rfl:=zag hy1;refine ⟨by decide,?_⟩;simp only [go_sem,↓reduceIte,zak]
    ·replace hy1:=zaB c4 hy1;refine zao fun _ z=>?_;simp only [go_sem,seval,c2,c3,c4];apply z;obtain rfl:=zag hy1;refine ⟨by decide,?_⟩;simp only [go_sem,↓reduceIte,zak]
 ·intro E5 m6 e7 _;simp only [zaa];refine zau ?_;obtain rfl:=zag h;refine ⟨by simp,?_⟩;simp only [go_sem,e7]
def zf6 (f:Str->Str->Option Bool):Prop:=∀a0 a1 r,f a0 a1=some r->∀(q:Pa) (m:M) (vs:List V),vs.map V.weak1=[.lit (.string (bs a0)),.lit (.string (bs a1))]->SC Tryz.prog 180 vs q m (fun v m'=>v=.lit (.bool r)/\m'=m)
theorem zea:zf6 (zcA):=by
 intro a0 a1 r h q m vs hv;refine SC.weak ?_;rw [hv];refine SC_w Tryz.func180 rfl (fun xs w=>Tryz.call180 xs w) Tryz.ntmps180 (by kernel_rfl) Tryz.results180 ?_;unfold zcA at h;refine zan fun _ z=>?_;simp only [go_sem];apply z;refine zah ?_;obtain ⟨y1,hy1,h⟩:=bind_some h;refine zbf 15 [] [] rfl (fun E' m'=>E' 4=.lit (.bool y1)/\m'.gl=m.gl/\m.back q m'=m) ?_ ?_
 ·rcases za9 (decide ((a1.length:Int)<=(a0.length:Int))) with c2 | c2
  ·replace hy1:=zaA c2 hy1;obtain ⟨⟨f3,f4⟩,hy1⟩:=zaM hy1;refine zao fun _ z=>?_;simp only [go_sem,seval,f3,f4];apply z;obtain rfl:=zag hy1;refine ⟨by decide,?_⟩;simp only [go_sem,↓reduceIte,zak]
  ·replace hy1:=zaB c2 hy1;refine zao fun _ z=>?_;simp only [go_sem,seval,c2];apply z;obtain rfl:=zag hy1;refine ⟨by decide,?_⟩;simp only [go_sem,↓reduceIte,zak]
 ·intro E5 m6 e7 _;simp only [zaa];refine zau ?_;obtain rfl:=zag h;refine ⟨by simp,?_⟩;simp only [go_sem,e7]
def zkf (f:Str->Str->Option Bool):Prop:=∀a0 a1 r,f a0 a1=some r->∀(q:Pa) (m:M) (vs:List V),vs.map V.weak1=[.lit (.string (bs a0)),.lit (.string (bs a1))]->SC Tryz.prog 139 vs q m (fun v m'=>v=.lit (.bool r)/\m'=m)
theorem zgO:zkf (zfq):=by
 intro a0 a1 r h q m vs hv;refine SC.weak ?_;rw [hv];refine SC_w Tryz.func139 rfl (fun xs w=>Tryz.call139 xs w) Tryz.ntmps139 (by kernel_rfl) Tryz.results139 ?_;unfold zfq at h;refine zan fun _ z=>?_;simp only [go_sem];apply z;refine zah ?_;obtain ⟨x1,h2,h⟩:=bind_some h;refine zao fun _ z=>?_;simp only [go_sem,seval];refine SC.by_ (zea a0 a1 _ h2 _ _ _ (by simp only [go_sem])) ?_;simp only [go_sem,seval];apply z;refine zau ?_;obtain rfl:=zag h;refine ⟨by simp,?_⟩;simp only [go_sem,↓reduceIte,zak]
def zfR (f:Str->Int->Option Int):Prop:=∀a0 a1 r,f a0 a1=some r->∀(q:Pa) (m:M) (vs:List V),vs.map V.weak1=[.lit (.string (bs a0)),.lit (.int .u8 a1)]->SC Tryz.prog 210 vs q m (fun v m'=>v=.lit (.int .i64 r)/\m'=m)
theorem zfJ:zfR zei:=by
 intro a0 a1 r h q m vs hv;refine SC.weak ?_;rw [hv];obtain rfl:=zag h;intro c xs w h1 h2 h3;obtain ⟨x,xs,rfl,k1,k2⟩:=h2.uncons;obtain ⟨y,rfl,k3⟩:=k2.inv_one;obtain rfl:=k1.inv_lit;obtain rfl:=k3.inv_lit;refine .inr ⟨.int .i64 (Lib.indexByte a0 a1.toNat.toUInt8),w,?_,_,c,_,m,rfl,⟨rfl,rfl⟩,h1,.refl q c m w,.lit .nil⟩;rw [run_callFunc_extern (fn:=Tryz.f210) (e:=Extern.BytealgIndexByte.indexByte) Tryz.func210 (by kernel_rfl) (by kernel_rfl) (by kernel_rfl) (by rfl)];have:=Lib.run_indexByteString (P:=Tryz.prog) (bs a0) a1 w;rw [this];rfl
def zf5 (f:Str->Int->Option Int):Prop:=∀a0 a1 r,f a0 a1=some r->∀(q:Pa) (m:M) (vs:List V),vs.map V.weak1=[.lit (.string (bs a0)),.lit (.int .u8 a1)]->SC Tryz.prog 181 vs q m (fun v m'=>v=.lit (.int .i64 r)/\m'=m)
theorem zfZ:zf5 (zdy):=by
 intro a0 a1 r h q m vs hv;refine SC.weak ?_;rw [hv];refine SC_w Tryz.func181 rfl (fun xs w=>Tryz.call181 xs w) Tryz.ntmps181 (by kernel_rfl) Tryz.results181 ?_;unfold zdy at h;refine zan fun _ z=>?_;simp only [go_sem];apply z;refine zah ?_;obtain ⟨x1,h2,h⟩:=bind_some h;refine zao fun _ z=>?_;simp only [go_sem,seval];refine SC.by_ (zfJ a0 a1 _ h2 _ _ _ (by simp only [go_sem])) ?_;simp only [go_sem,seval];apply z;refine zau ?_;obtain rfl:=zag h;refine ⟨by simp,?_⟩;simp only [go_sem,↓reduceIte,zak]
def zke (f:Str->Int->Option Int):Prop:=∀a0 a1 r,f a0 a1=some r->∀(q:Pa) (m:M) (vs:List V),vs.map V.weak1=[.lit (.string (bs a0)),.lit (.int .u8 a1)]->SC Tryz.prog 140 vs q m (fun v m'=>v=.lit (.int .i64 r)/\m'=m)
theorem zfu:zke (zen):=by
 intro a0 a1 r h q m vs hv;refine SC.weak ?_;rw [hv];refine SC_w Tryz.func140 rfl (fun xs w=>Tryz.call140 xs w) Tryz.ntmps140 (by kernel_rfl) Tryz.results140 ?_;unfold zen at h;refine zan fun _ z=>?_;simp only [go_sem];apply z;refine zah ?_;obtain ⟨x1,h2,h⟩:=bind_some h;refine zao fun _ z=>?_;simp only [go_sem,seval];refine SC.by_ (zfZ a0 a1 _ h2 _ _ _ (by simp only [go_sem])) ?_;simp only [go_sem,seval];apply z;refine zau ?_;obtain rfl:=zag h;refine ⟨by simp,?_⟩;simp only [go_sem,↓reduceIte,zak]
def zn1 (f:Str->Int->Option Int):Prop:=∀a0 a1 r,f a0 a1=some r->∀(q:Pa) (m:M) (vs:List V),vs.map V.weak1=[.lit (.string (bs a0)),.lit (.int .i64 a1)]->SC Tryz.prog 90 vs q m (fun v m'=>v=.lit (.int .i64 r)/\m'=m)
theorem zlj (n:Nat):zn1 (zk6 n):=by
 intro a0 a1 r h q m vs hv;refine SC.weak ?_;rw [hv];refine SC_w Tryz.func90 rfl (fun xs w=>Tryz.call90 xs w) Tryz.ntmps90 (by kernel_rfl) Tryz.results90 ?_;unfold zk6 at h;refine zan fun _ z=>?_;simp only [go_sem];apply z;refine zah ?_;refine zaG ?_;obtain ⟨y3,hy3,h⟩:=bind_some h;refine zbu [] [] rfl (fun c E' m'=>∃v2,zgh a0 c v2=some y3/\E' 0=.lit (.string (bs a0))/\E' 1=.lit (.int .i64 v2)/\m'.gl=m.gl/\m.back q m'=m) n ⟨a1,hy3,?_⟩ ?_
 ·simp only [go_sem,seval,zak]
 rintro i1 c4 E5 m6 ⟨v2,hy3,e7⟩ _
 rcases c4 with _ | c4
 ·exact absurd hy3 (by rw [zgh];exact fun e=>nomatch e)
 rw [zgh] at hy3;refine zah ?_;refine zan fun _ z=>?_;simp only [go_sem,seval,e7];apply z;refine zbF (decide (v2<(a0.length:Int))) (by simp only [go_sem,↓reduceIte]) (fun c8=>?_) (fun c8=>?_)
 ·replace hy3:=zaA c8 hy3;refine zav ?_
  try simp only [zaa]
  refine zaG ?_;refine zaG ?_;refine zah ?_;obtain ⟨x9,h14,hy3⟩:=bind_some hy3;obtain ⟨f11,f12,f13⟩:=zaw h14;obtain ⟨x10,h15,hy3⟩:=bind_some hy3;refine zao fun _ z=>?_;simp only [go_sem,seval,f11,f12,f13,e7];refine SC.by_ (zmB (x9.toNat:Int) _ h15 _ _ _ (by simp only [go_sem])) ?_;simp only [go_sem,seval];apply z;refine zbn x10 (fun c16=>?_) (fun c16=>?_)
  ·replace hy3:=zaA c16 hy3;refine zca fun _ z=>?_;simp only [go_sem,seval,c16,e7];apply z;simp only [zaa,zaq];refine ⟨c4,Nat.lt_succ_self _,(IntKind.i64.wrap (v2+(1:Int))),hy3,?_⟩;simp only [go_sem,seval,e7]
  ·replace hy3:=zaB c16 hy3;refine zah ?_;obtain ⟨⟨f18,f19⟩,hy3⟩:=zaM hy3;obtain ⟨x17,h20,hy3⟩:=bind_some hy3;refine zao fun _ z=>?_;simp only [go_sem,seval,f11,c16,f19,e7];refine SC.by_ (zgO (a0.drop v2.toNat) ([47,47]:Str) _ h20 _ _ _ (by simp only [go_sem])) ?_;simp only [go_sem,seval];apply z;refine zbn x17 (fun c21=>?_) (fun c21=>?_)
   ·replace hy3:=zaA c21 hy3;refine zah ?_;obtain ⟨⟨f23,f24⟩,hy3⟩:=zaM hy3;obtain ⟨x22,h25,hy3⟩:=bind_some hy3;refine zao fun _ z=>?_;simp only [go_sem,seval,f11,f19,c21,e7];refine SC.by_ (zfu (a0.drop v2.toNat) (10:Int) _ h25 _ _ _ (by simp only [go_sem])) ?_;simp only [go_sem,seval];apply z;refine zah ?_;refine zan fun _ z=>?_;simp only [go_sem,seval];apply z;refine zbF (decide (x22<(0:Int))) (by simp only [go_sem,↓reduceIte]) (fun c26=>?_) (fun c26=>?_)
    ·replace hy3:=zaA c26 hy3;refine zan fun _ z=>?_;simp only [go_sem,seval,c26,e7];apply z;refine zau ?_
     try simp only [zat,zaC]
     obtain rfl:=zag hy3;simp only [Sum.elim_inr] at h;obtain rfl:=zag h;refine ⟨by simp,?_⟩;simp only [go_sem,↓reduceIte,e7]
    ·replace hy3:=zaB c26 hy3;refine zav ?_
     try simp only [zaa]
     refine zca fun _ z=>?_;simp only [go_sem,seval,c26,e7];apply z;simp only [zaa,zaq];refine ⟨c4,Nat.lt_succ_self _,(IntKind.i64.wrap (v2+x22)),hy3,?_⟩;simp only [go_sem,seval,e7]
   ·replace hy3:=zaB c21 hy3;refine zan fun _ z=>?_;simp only [go_sem,seval,c21,e7];apply z;refine zau ?_
    try simp only [zat,zaC]
    obtain rfl:=zag hy3;simp only [Sum.elim_inr] at h;obtain rfl:=zag h;refine ⟨by simp,?_⟩;simp only [go_sem,↓reduceIte,e7]
 ·replace hy3:=zaB c8 hy3;refine zbG ?_
  try simp only [zaS,zaK,↓reduceIte,zaa]
  obtain rfl:=zag hy3;simp only [Sum.elim_inl] at h;refine zan fun _ z=>?_;simp only [go_sem,seval,c8,e7];apply z;refine zau ?_;obtain rfl:=zag h;refine ⟨by simp,?_⟩;simp only [go_sem,↓reduceIte,e7]
def zmD (f:Int->Option Bool):Prop:=∀a0 r,f a0=some r->∀(q:Pa) (m:M) (vs:List V),vs.map V.weak1=[.lit (.int .u8 a0)]->SC Tryz.prog 142 vs q m (fun v m'=>v=.lit (.bool r)/\m'=m)
theorem ziN:zmD (zjN):=by
 intro a0 r h q m vs hv;refine SC.weak ?_;rw [hv];refine SC_w Tryz.func142 rfl (fun xs w=>Tryz.call142 xs w) Tryz.ntmps142 (by kernel_rfl) Tryz.results142 ?_;unfold zjN at h;refine zan fun _ z=>?_;simp only [go_sem];apply z;refine zah ?_;obtain ⟨y1,hy1,h⟩:=bind_some h;refine zbf 12 [] [] rfl (fun E' m'=>E' 2=.lit (.bool y1)/\m'.gl=m.gl/\m.back q m'=m) ?_ ?_
 ·rcases za9 (decide ((97:Int)<=a0)) with c2 | c2
  ·replace hy1:=zaA c2 hy1
   rcases za9 (decide (a0<=(122:Int))) with c3 | c3
   ·replace hy1:=zaA c3 hy1;refine zao fun _ z=>?_;simp only [go_sem,seval,c2,c3];apply z;obtain rfl:=zag hy1;refine ⟨by decide,?_⟩;simp only [go_sem,↓reduceIte,zak]
   ·replace hy1:=zaB c3 hy1;refine zao fun _ z=>?_;simp only [go_sem,seval,c2,c3];apply z;obtain rfl:=zag hy1;refine ⟨by decide,?_⟩;simp only [go_sem,↓reduceIte,zak]
  ·replace hy1:=zaB c2 hy1;refine zao fun _ z=>?_;simp only [go_sem,seval,c2];apply z;obtain rfl:=zag hy1;refine ⟨by decide,?_⟩;simp only [go_sem,↓reduceIte,zak]
 ·intro E4 m5 e6 _;simp only [zaa];refine zau ?_;obtain rfl:=zag h;refine ⟨by simp,?_⟩;simp only [go_sem,e6]
def znd (f:Int->Option Bool):Prop:=∀a0 r,f a0=some r->∀(q:Pa) (m:M) (vs:List V),vs.map V.weak1=[.lit (.int .u8 a0)]->SC Tryz.prog 143 vs q m (fun v m'=>v=.lit (.bool r)/\m'=m)
theorem zkZ:znd (zkF):=by
 intro a0 r h q m vs hv;refine SC.weak ?_;rw [hv];refine SC_w Tryz.func143 rfl (fun xs w=>Tryz.call143 xs w) Tryz.ntmps143 (by kernel_rfl) Tryz.results143 ?_;unfold zkF at h;refine zan fun _ z=>?_;simp only [go_sem];apply z;refine zah ?_;obtain ⟨y1,hy1,h⟩:=bind_some h;refine zbf 8 [] [] rfl (fun E' m'=>E' 2=.lit (.bool y1)/\m'.gl=m.gl/\m.back q m'=m) ?_ ?_
 ·rcases za9 (decide ((48:Int)<=a0)) with c2 | c2
  ·replace hy1:=zaA c2 hy1;refine zao fun _ z=>?_;simp only [go_sem,seval,c2];apply z;obtain rfl:=zag hy1;refine ⟨by decide,?_⟩;simp only [go_sem,↓reduceIte,zak]
  ·replace hy1:=zaB c2 hy1;refine zao fun _ z=>?_;simp only [go_sem,seval,c2];apply z;obtain rfl:=zag hy1;refine ⟨by decide,?_⟩;simp only [go_sem,↓reduceIte,zak]
 ·intro E3 m4 e5 _;simp only [zaa];refine zau ?_;obtain rfl:=zag h;refine ⟨by simp,?_⟩;simp only [go_sem,e5]
def zn0 (f:Str->Option Str):Prop:=∀a0 r,f a0=some r->∀(q:Pa) (m:M) (vs:List V),vs.map V.weak1=[.lit (.string (bs a0))]->SC Tryz.prog 141 vs q m (fun v m'=>v=.lit (.string (bs r))/\m'=m)
theorem zm8 (n:Nat):zn0 (zl2 n):=by
 intro a0 r h q m vs hv;refine SC.weak ?_;rw [hv];refine SC_w Tryz.func141 rfl (fun xs w=>Tryz.call141 xs w) Tryz.ntmps141 (by kernel_rfl) Tryz.results141 ?_;unfold zl2 at h;refine zan fun _ z=>?_;simp only [go_sem];apply z;refine zah ?_;refine zan fun _ z=>?_;simp only [go_sem,seval];apply z;refine zaG ?_;obtain ⟨y3,hy3,h⟩:=bind_some h;refine zbu [] [] rfl (fun c E' m'=>∃v2,zg8 a0 c v2=some y3/\E' 0=.lit (.string (bs a0))/\E' 5=.lit (.int .i64 (a0.length:Int))/\E' 6=.lit (.int .i64 v2)/\m'.gl=m.gl/\m.back q m'=m) n ⟨(0:Int),hy3,?_⟩ ?_
 ·simp only [go_sem,seval,zak]
 rintro i1 c4 E5 m6 ⟨v2,hy3,e7⟩ _
 rcases c4 with _ | c4
 ·exact absurd hy3 (by rw [zg8];exact fun e=>nomatch e)
 rw [zg8] at hy3;refine zan fun _ z=>?_;simp only [go_sem,e7];apply z;refine zah ?_;refine zbF (decide (v2<(a0.length:Int))) (by simp only [go_sem,↓reduceIte]) (fun c8=>?_) (fun c8=>?_)
 ·replace hy3:=zaA c8 hy3;refine zav ?_
  try simp only [zaa]
  refine zah ?_;refine zaG ?_;refine zan fun _ z=>?_;simp only [go_sem,seval,c8,e7];apply z;refine zah ?_;obtain ⟨y9,hy9,hy3⟩:=bind_some hy3;refine zbf 15 [] [] rfl (fun E' m'=>E' 0=.lit (.string (bs a0))/\E' 3=.lit (.int .i64 v2)/\E' 5=.lit (.int .i64 (a0.length:Int))/\E' 6=.lit (.int .i64 v2)/\E' 20=.lit (.bool y9)/\m'.gl=m.gl/\m.back q m'=m) ?_ ?_
  ·obtain ⟨x10,h15,hy9⟩:=bind_some hy9;obtain ⟨f12,f13,f14⟩:=zaw h15;obtain ⟨x11,h16,hy9⟩:=bind_some hy9
   rcases za9 (!x11) with c17 | c17
   ·replace hy9:=zaA c17 hy9;obtain ⟨x18,h19,hy9⟩:=bind_some hy9;refine zao fun _ z=>?_;simp only [go_sem,seval,f12,f14,e7];refine SC.by_ (ziN (x10.toNat:Int) _ h16 _ _ _ (by simp only [go_sem])) ?_;simp only [go_sem,seval,f12,f14,c17,e7];refine SC.by_ (zkZ (x10.toNat:Int) _ h19 _ _ _ (by simp only [go_sem])) ?_;simp only [go_sem,seval];apply z;obtain rfl:=zag hy9;refine ⟨by decide,?_⟩;simp only [go_sem,seval,e7]
   ·replace hy9:=zaB c17 hy9;refine zao fun _ z=>?_;simp only [go_sem,seval,f12,f14,e7];refine SC.by_ (ziN (x10.toNat:Int) _ h16 _ _ _ (by simp only [go_sem])) ?_;simp only [go_sem,seval,c17];apply z;obtain rfl:=zag hy9;refine ⟨by decide,?_⟩;simp only [go_sem,seval,e7]
  ·intro E20 m21 e22 _;simp only [zaa];refine zbF y9 (by simp only [go_sem,e22]) (fun c23=>?_) (fun c23=>?_)
   ·replace hy3:=zaA c23 hy3;refine zah ?_;obtain ⟨⟨f24,f25⟩,hy3⟩:=zaM hy3;refine zao fun _ z=>?_;simp only [go_sem,seval,f24,f25,e22];apply z;refine zau ?_
    try simp only [zat,zaC]
    obtain rfl:=zag hy3;simp only [Sum.elim_inr] at h;obtain rfl:=zag h;refine ⟨by simp,?_⟩;simp only [go_sem,↓reduceIte,e22]
   ·replace hy3:=zaB c23 hy3;refine zav ?_
    try simp only [zaa,zaq]
    refine zao fun _ z=>?_;simp only [go_sem,seval,e22];apply z;refine ⟨c4,Nat.lt_succ_self _,(IntKind.i64.wrap (v2+(1:Int))),hy3,?_⟩;simp only [go_sem,seval,e22]
 ·replace hy3:=zaB c8 hy3;refine zbG ?_
  try simp only [zaS,zaK,↓reduceIte,zaa]
  obtain rfl:=zag hy3;simp only [Sum.elim_inl] at h;refine zan fun _ z=>?_;simp only [go_sem,seval,c8,e7];apply z;refine zau ?_;obtain rfl:=zag h;refine ⟨by simp,?_⟩;simp only [go_sem,↓reduceIte,e7]
def zf7 (f:Str->Str->Option (Str × Bool)):Prop:=∀a0 a1 r,f a0 a1=some r->∀(q:Pa) (m:M) (vs:List V),vs.map V.weak1=[.lit (.string (bs a0)),.lit (.string (bs a1))]->SC Tryz.prog 211 vs q m (fun v m'=>v=.tup [.lit (.string (bs r.1)),.lit (.bool r.2)]/\m'=m)
theorem zf0:zf7 (zdz):=by
 intro a0 a1 r h q m vs hv;refine SC.weak ?_;rw [hv];refine SC_w Tryz.func211 rfl (fun xs w=>Tryz.call211 xs w) Tryz.ntmps211 (by kernel_rfl) Tryz.results211 ?_;unfold zdz at h;refine zan fun _ z=>?_;simp only [go_sem,Nat.reduceAdd];apply z;refine zah ?_;refine zah ?_;obtain ⟨x1,h2,h⟩:=bind_some h;refine zao fun _ z=>?_;simp only [go_sem,seval];refine SC.by_ (zea a0 a1 _ h2 _ _ _ (by simp only [go_sem])) ?_;simp only [go_sem,seval];apply z;refine zbn (!x1) (fun c3=>?_) (fun c3=>?_)
 ·replace h:=zaA c3 h;refine zan fun _ z=>?_;simp only [go_sem,seval,c3];apply z;refine zau ?_
  try simp only [zat]
  obtain rfl:=zag h;refine ⟨by simp,?_⟩;simp only [go_sem,seval,zak]
 ·replace h:=zaB c3 h;refine zav ?_
  try simp only [zaa]
  refine zah ?_;obtain ⟨⟨f4,f5⟩,h⟩:=zaM h;refine zao fun _ z=>?_;simp only [go_sem,seval,c3,f4,f5];apply z;refine zau ?_;obtain rfl:=zag h;refine ⟨by simp,?_⟩;simp only [go_sem,seval,zak]
def zkg (f:Str->Str->Option (Str × Bool)):Prop:=∀a0 a1 r,f a0 a1=some r->∀(q:Pa) (m:M) (vs:List V),vs.map V.weak1=[.lit (.string (bs a0)),.lit (.string (bs a1))]->SC Tryz.prog 182 vs q m (fun v m'=>v=.tup [.lit (.string (bs r.1)),.lit (.bool r.2)]/\m'=m)
theorem zjR:zkg (zgd):=by
 intro a0 a1 r h q m vs hv;refine SC.weak ?_;rw [hv];refine SC_w Tryz.func182 rfl (fun xs w=>Tryz.call182 xs w) Tryz.ntmps182 (by kernel_rfl) Tryz.results182 ?_;unfold zgd at h;refine zan fun _ z=>?_;simp only [go_sem,Nat.reduceAdd];apply z;refine zah ?_;obtain ⟨x1,h2,h⟩:=bind_some h;refine zao fun _ z=>?_;simp only [go_sem,seval];refine SC.by_ (zf0 a0 a1 _ h2 _ _ _ (by simp only [go_sem])) ?_;simp only [go_sem,seval];apply z;refine zau ?_;obtain rfl:=zag h;refine ⟨by simp,?_⟩;simp only [go_sem,seval,zak]
def zm9 (f:Str->Option (Int × Bool)):Prop:=∀a0 r,f a0=some r->∀(q:Pa) (m:M) (vs:List V),vs.map V.weak1=[.lit (.string (bs a0))]->SC Tryz.prog 144 vs q m (fun v m'=>v=.tup [.lit (.int .u32 r.1),.lit (.bool r.2)]/\m'=m)
theorem zmA (n:Nat):zm9 (zli n):=by
 intro a0 r h q m vs hv;refine SC.weak ?_;rw [hv];refine SC_w Tryz.func144 rfl (fun xs w=>Tryz.call144 xs w) Tryz.ntmps144 (by kernel_rfl) Tryz.results144 ?_;unfold zli at h;refine zan fun _ z=>?_;simp only [go_sem,Nat.reduceAdd];apply z;refine zan fun _ z=>?_;simp only [go_sem,Nat.reduceAdd];apply z;refine zah ?_;refine zah ?_;obtain ⟨x1,h2,h⟩:=bind_some h;refine zao fun _ z=>?_;simp only [go_sem,seval];refine SC.by_ (zjR a0 ([48,120]:Str) _ h2 _ _ _ (by simp only [go_sem])) ?_;simp only [go_sem,seval];apply z;refine zan fun _ z=>?_;simp only [go_sem,seval];apply z;refine zbn x1.2 (fun c3=>?_) (fun c3=>?_)
 ·replace h:=zaA c3 h;refine zao fun _ z=>?_;simp only [go_sem,seval,c3];apply z;refine zan fun _ z=>?_;simp only [go_sem,Nat.reduceAdd];apply z;refine zah ?_;refine zan fun _ z=>?_;simp only [go_sem,seval];apply z;refine zaG ?_;obtain ⟨y7,hy7,h⟩:=bind_some h;refine zbu [] [] rfl (fun c E' m'=>∃v5 v6,zgx x1 c v5 v6=some y7/\E' 0=.lit (.string (bs x1.1))/\E' 4=.lit (.int .i64 (16:Int))/\E' 7=.lit (.int .i64 v5)/\E' 18=.lit (.int .i64 (x1.1.length:Int))/\E' 19=.lit (.int .i64 v6)/\m'.gl=m.gl/\m.back q m'=m) n ⟨(0:Int),(0:Int),hy7,?_⟩ ?_
  ·simp only [go_sem,seval,zak]
  rintro i4 c8 E9 m10 ⟨v5,v6,hy7,e11⟩ _
  rcases c8 with _ | c8
  ·exact absurd hy7 (by rw [zgx];exact fun e=>nomatch e)
  rw [zgx] at hy7;refine zan fun _ z=>?_;simp only [go_sem,e11];apply z;refine zah ?_;refine zbF (decide (v6<(x1.1.length:Int))) (by simp only [go_sem,↓reduceIte]) (fun c12=>?_) (fun c12=>?_)
  ·replace hy7:=zaA c12 hy7;refine zav ?_
   try simp only [zaa]
   refine zah ?_;refine zaG ?_;refine zan fun _ z=>?_;simp only [go_sem,seval,c12,e11];apply z;refine zah ?_;obtain ⟨⟨f15,f16⟩,hy7⟩:=zaM hy7;obtain ⟨x13,h20,hy7⟩:=bind_some hy7;obtain ⟨f17,f18,f19⟩:=zaw h20;obtain ⟨x14,h21,hy7⟩:=bind_some hy7;refine zaO (tbl:=[0,1,0,0,12,31,63]) (ord:=[(0,0),(1,0),(2,0),(3,0),(4,0),(5,0),(6,0)]) 10 rfl (by kernel_rfl) (by kernel_rfl) fun _ z=>?_;simp only [go_sem,seval,Int.reduceToNat,f15,f17,f19,e11];refine zaT (zfu (([48,49,50,51,52,53,54,55,56,57,97,98,99,100,101,102]:Str).take (16:Int).toNat) (x13.toNat:Int) _ h21 _ _ _ (by simp only [go_sem,Int.reduceToNat])) rfl ?_;simp only [go_sem,↓reduceIte];apply z;simp only [zaa];refine zan fun _ z=>?_;simp only [go_sem,seval,e11];apply z;refine zah ?_;obtain ⟨y22,hy22,hy7⟩:=bind_some hy7;refine zbf 22 [] [] rfl (fun E' m'=>E' 0=.lit (.string (bs x1.1))/\E' 4=.lit (.int .i64 (16:Int))/\E' 7=.lit (.int .i64 (IntKind.i64.wrap ((IntKind.i64.wrap (v5*(16:Int)))+x14)))/\E' 18=.lit (.int .i64 (x1.1.length:Int))/\E' 19=.lit (.int .i64 v6)/\E' 38=.lit (.bool y22)/\m'.gl=m.gl/\m.back q m'=m) ?_ ?_
   ·rcases za9 (decide (x14<(0:Int))) with c23 | c23
    ·replace hy22:=zaA c23 hy22;refine zao fun _ z=>?_;simp only [go_sem,seval,c23];apply z;obtain rfl:=zag hy22;refine ⟨by decide,?_⟩;simp only [go_sem,seval,e11]
    ·replace hy22:=zaB c23 hy22;refine zao fun _ z=>?_;simp only [go_sem,seval,c23];apply z;obtain rfl:=zag hy22;refine ⟨by decide,?_⟩;simp only [go_sem,seval,e11]
   ·intro E24 m25 e26 _;simp only [zaa];refine zbF y22 (by simp only [go_sem,e26]) (fun c27=>?_) (fun c27=>?_)
    ·replace hy7:=zaA c27 hy7;refine zan fun _ z=>?_;simp only [go_sem,Nat.reduceAdd];apply z;refine zau ?_
     try simp only [zat,zaC]
     obtain rfl:=zag hy7;simp only [Sum.elim_inr] at h;obtain rfl:=zag h;refine ⟨by simp,?_⟩;simp only [go_sem,seval,e26]
    ·replace hy7:=zaB c27 hy7;refine zav ?_
     try simp only [zaa,zaq]
     refine zao fun _ z=>?_;simp only [go_sem,seval,e26];apply z;refine ⟨c8,Nat.lt_succ_self _,(IntKind.i64.wrap ((IntKind.i64.wrap (v5*(16:Int)))+x14)),(IntKind.i64.wrap (v6+(1:Int))),hy7,?_⟩;simp only [go_sem,seval,e26]
  ·replace hy7:=zaB c12 hy7;refine zbG ?_
   try simp only [zaS,zaK,↓reduceIte,zaa]
   obtain rfl:=zag hy7;simp only [Sum.elim_inl] at h;refine zan fun _ z=>?_;simp only [go_sem,seval,c12,e11];apply z;refine zau ?_;obtain rfl:=zag h;refine ⟨by simp,?_⟩;simp only [go_sem,seval,e11]
 ·replace h:=zaB c3 h;refine zav ?_
  try simp only [zaa]
  refine zan fun _ z=>?_;simp only [go_sem,Nat.reduceAdd,c3];apply z;refine zah ?_;refine zan fun _ z=>?_;simp only [go_sem,seval];apply z;refine zaG ?_;obtain ⟨y31,hy31,h⟩:=bind_some h;refine zbu [] [] rfl (fun c E' m'=>∃v29 v30,zgw a0 c v29 v30=some y31/\E' 0=.lit (.string (bs a0))/\E' 4=.lit (.int .i64 (10:Int))/\E' 7=.lit (.int .i64 v29)/\E' 18=.lit (.int .i64 (a0.length:Int))/\E' 19=.lit (.int .i64 v30)/\m'.gl=m.gl/\m.back q m'=m) n ⟨(0:Int),(0:Int),hy31,?_⟩ ?_
  ·simp only [go_sem,seval,zak]
  rintro i28 c32 E33 m34 ⟨v29,v30,hy31,e35⟩ _
  rcases c32 with _ | c32
  ·exact absurd hy31 (by rw [zgw];exact fun e=>nomatch e)
  rw [zgw] at hy31;refine zan fun _ z=>?_;simp only [go_sem,e35];apply z;refine zah ?_;refine zbF (decide (v30<(a0.length:Int))) (by simp only [go_sem,↓reduceIte]) (fun c36=>?_) (fun c36=>?_)
  ·replace hy31:=zaA c36 hy31;refine zav ?_
   try simp only [zaa]
   refine zah ?_;refine zaG ?_;refine zan fun _ z=>?_;simp only [go_sem,seval,c36,e35];apply z;refine zah ?_;obtain ⟨⟨f39,f40⟩,hy31⟩:=zaM hy31;obtain ⟨x37,h44,hy31⟩:=bind_some hy31;obtain ⟨f41,f42,f43⟩:=zaw h44;obtain ⟨x38,h45,hy31⟩:=bind_some hy31;refine zaO (tbl:=[0,1,0,0,12,31,63]) (ord:=[(0,0),(1,0),(2,0),(3,0),(4,0),(5,0),(6,0)]) 10 rfl (by kernel_rfl) (by kernel_rfl) fun _ z=>?_;simp only [go_sem,seval,Int.reduceToNat,f39,f41,f43,e35];refine zaT (zfu (([48,49,50,51,52,53,54,55,56,57,97,98,99,100,101,102]:Str).take (10:Int).toNat) (x37.toNat:Int) _ h45 _ _ _ (by simp only [go_sem,Int.reduceToNat])) rfl ?_;simp only [go_sem,↓reduceIte];apply z;simp only [zaa];refine zan fun _ z=>?_;simp only [go_sem,seval,e35];apply z;refine zah ?_;obtain ⟨y46,hy46,hy31⟩:=bind_some hy31;refine zbf 22 [] [] rfl (fun E' m'=>E' 0=.lit (.string (bs a0))/\E' 4=.lit (.int .i64 (10:Int))/\E' 7=.lit (.int .i64 (IntKind.i64.wrap ((IntKind.i64.wrap (v29*(10:Int)))+x38)))/\E' 18=.lit (.int .i64 (a0.length:Int))/\E' 19=.lit (.int .i64 v30)/\E' 38=.lit (.bool y46)/\m'.gl=m.gl/\m.back q m'=m) ?_ ?_
   ·rcases za9 (decide (x38<(0:Int))) with c47 | c47
    ·replace hy46:=zaA c47 hy46;refine zao fun _ z=>?_;simp only [go_sem,seval,c47];apply z;obtain rfl:=zag hy46;refine ⟨by decide,?_⟩;simp only [go_sem,seval,e35]
    ·replace hy46:=zaB c47 hy46;refine zao fun _ z=>?_;simp only [go_sem,seval,c47];apply z;obtain rfl:=zag hy46;refine ⟨by decide,?_⟩;simp only [go_sem,seval,e35]
   ·intro E48 m49 e50 _;simp only [zaa];refine zbF y46 (by simp only [go_sem,e50]) (fun c51=>?_) (fun c51=>?_)
    ·replace hy31:=zaA c51 hy31;refine zan fun _ z=>?_;simp only [go_sem,Nat.reduceAdd];apply z;refine zau ?_
     try simp only [zat,zaC]
     obtain rfl:=zag hy31;simp only [Sum.elim_inr] at h;obtain rfl:=zag h;refine ⟨by simp,?_⟩;simp only [go_sem,seval,e50]
    ·replace hy31:=zaB c51 hy31;refine zav ?_
     try simp only [zaa,zaq]
     refine zao fun _ z=>?_;simp only [go_sem,seval,e50];apply z;refine ⟨c32,Nat.lt_succ_self _,(IntKind.i64.wrap ((IntKind.i64.wrap (v29*(10:Int)))+x38)),(IntKind.i64.wrap (v30+(1:Int))),hy31,?_⟩;simp only [go_sem,seval,e50]
  ·replace hy31:=zaB c36 hy31;refine zbG ?_
   try simp only [zaS,zaK,↓reduceIte,zaa]
   obtain rfl:=zag hy31;simp only [Sum.elim_inl] at h;refine zan fun _ z=>?_;simp only [go_sem,seval,c36,e35];apply z;refine zau ?_;obtain rfl:=zag h;refine ⟨by simp,?_⟩;simp only [go_sem,seval,e35]
def zn2 (f:Str->Option Str):Prop:=∀a0 r,f a0=some r->∀(q:Pa) (m:M) (vs:List V),vs.map V.weak1=[.lit (.string (bs a0))]/\m.gl 2=.eptr [(cA cS zcz)] 0 0->SC Tryz.prog 145 vs q m (fun v m'=>v=.lit (.string (bs r))/\m'=m)
theorem zna (n:Nat):zn2 (zl3 n):=by
 rintro a0 r h q m vs ⟨hv,hg2⟩;refine SC.weak ?_;rw [hv];refine SC_w Tryz.func145 rfl (fun xs w=>Tryz.call145 xs w) Tryz.ntmps145 (by kernel_rfl) Tryz.results145 ?_;unfold zl3 at h;refine zan fun _ z=>?_;simp only [go_sem];apply z;refine zah ?_;refine zan fun _ z=>?_;simp only [go_sem,Nat.reduceAdd,hg2];apply z;refine zaG ?_;obtain ⟨y3,hy3,h⟩:=bind_some h;refine zbu [] [] rfl (fun c E' m'=>∃v2,zg9 a0 c v2=some y3/\E' 0=.lit (.string (bs a0))/\E' 5=.agg ((cA cS zcz))/\E' 6=.lit (.int .i64 v2)/\m'.gl=m.gl/\m.back q m'=m) n ⟨(0:Int),hy3,?_⟩ ?_
 ·simp only [go_sem,seval,zak]
 rintro i1 c4 E5 m6 ⟨v2,hy3,e7⟩ _
 rcases c4 with _ | c4
 ·exact absurd hy3 (by rw [zg9];exact fun e=>nomatch e)
 rw [zg9] at hy3;refine zan fun _ z=>?_;simp only [go_sem,e7];apply z;refine zah ?_;refine zbF (decide (v2<(26:Int))) (by simp only [go_sem,↓reduceIte]) (fun c8=>?_) (fun c8=>?_)
 ·replace hy3:=zaA c8 hy3;refine zav ?_
  try simp only [zaa]
  refine zah ?_;refine zaG ?_;refine zah ?_;obtain ⟨x9,h13,hy3⟩:=bind_some hy3;obtain ⟨f10,f11,f12⟩:=zaw h13;have f14:v2<(26:Int):=f11;obtain ⟨w15,d16⟩:=zks (f:=cS) (s:=1) (fun _ _=>rfl) f12;simp only [go_sem] at d16;refine zao fun _ z=>?_;simp only [go_sem,seval,f10,f14,d16,e7];apply z;refine zah ?_;obtain ⟨x17,h18,hy3⟩:=bind_some hy3;refine zao fun _ z=>?_;simp only [go_sem,seval,e7];refine SC.by_ (zgO a0 x9 _ h18 _ _ _ (by simp only [go_sem])) ?_;simp only [go_sem,Nat.reduceAdd];apply z;refine zbn x17 (fun c19=>?_) (fun c19=>?_)
  ·replace hy3:=zaA c19 hy3;refine zan fun _ z=>?_;simp only [go_sem,seval,c19];apply z;refine zau ?_
   try simp only [zat,zaC]
   obtain rfl:=zag hy3;simp only [Sum.elim_inr] at h;obtain rfl:=zag h;refine ⟨by simp,?_⟩;simp only [go_sem,↓reduceIte,e7]
  ·replace hy3:=zaB c19 hy3;refine zav ?_
   try simp only [zaa,zaq]
   refine zao fun _ z=>?_;simp only [go_sem,seval,c19,e7];apply z;refine ⟨c4,Nat.lt_succ_self _,(IntKind.i64.wrap (v2+(1:Int))),hy3,?_⟩;simp only [go_sem,seval,e7]
 ·replace hy3:=zaB c8 hy3;refine zbG ?_
  try simp only [zaS,zaK,↓reduceIte,zaa]
  obtain rfl:=zag hy3;simp only [Sum.elim_inl] at h;refine zan fun _ z=>?_;simp only [go_sem,Nat.reduceAdd,c8];apply z;refine zau ?_;obtain rfl:=zag h;refine ⟨by simp,?_⟩;simp only [go_sem,↓reduceIte,e7]
def zn3 (f:Str->Int->Option (zbs × Int)):Prop:=∀a0 a1 r,f a0 a1=some r->∀(q:Pa) (m:M) (vs:List V),vs.map V.weak1=[.lit (.string (bs a0)),.lit (.int .i64 a1)]/\m.gl 2=.eptr [(cA cS zcz)] 0 0->SC Tryz.prog 91 vs q m (fun v m'=>v=.tup [.agg ((zbs.C r.1)),.lit (.int .i64 r.2)]/\m'=m)
theorem znb (n:Nat):zn3 (zl4 n):=by
 rintro a0 a1 r h q m vs ⟨hv,hg2⟩;refine SC.weak ?_;rw [hv];refine SC_w Tryz.func91 rfl (fun xs w=>Tryz.call91 xs w) Tryz.ntmps91 (by kernel_rfl) Tryz.results91 ?_;unfold zl4 at h;refine zan fun _ z=>?_;simp only [go_sem,Nat.reduceAdd];apply z;refine zah ?_;obtain ⟨⟨f4,f5⟩,h⟩:=zaM h;obtain ⟨x2,h6,h⟩:=bind_some h;refine zao fun _ z=>?_;simp only [go_sem,seval,f4,f5];refine SC.by_ (zm8 n (a0.drop a1.toNat) _ h6 _ _ _ (by simp only [go_sem])) ?_;simp only [go_sem,seval];apply z;refine zah ?_;refine zaG ?_;refine zah ?_;obtain ⟨x7,h12,h⟩:=bind_some h;obtain ⟨f9,f10,f11⟩:=zaw h12;obtain ⟨x8,h13,h⟩:=bind_some h;refine zao fun _ z=>?_;simp only [go_sem,seval,f4,f11];refine SC.by_ (ziN (x7.toNat:Int) _ h13 _ _ _ (by simp only [go_sem])) ?_;simp only [go_sem,seval];apply z;refine zbn x8 (fun c14=>?_) (fun c14=>?_)
 ·replace h:=zaA c14 h;refine zah ?_;refine zan fun _ z=>?_;simp only [go_sem,seval,c14];apply z;refine zbF (decide ((32:Int)<(x2.length:Int))) (by simp only [go_sem,↓reduceIte]) (fun c15=>?_) (fun c15=>?_)
  ·replace h:=zaA c15 h;refine zan fun _ z=>?_;simp only [go_sem,seval,c15];apply z;refine zau ?_
   try simp only [zat,zaC]
   obtain rfl:=zag h;refine ⟨by simp,?_⟩;simp only [go_sem,seval,zam,zak]
  ·replace h:=zaB c15 h;refine zav ?_
   try simp only [zaa]
   refine zan fun _ z=>?_;simp only [go_sem,seval,c15];apply z;refine zau ?_
   try simp only [zat,zaC]
   obtain rfl:=zag h;refine ⟨by simp,?_⟩;simp only [go_sem,seval,zam,zak]
 ·replace h:=zaB c14 h;refine zah ?_;obtain ⟨x16,h17,h⟩:=bind_some h;refine zao fun _ z=>?_;simp only [go_sem,seval,f4,f11,c14];refine SC.by_ (zkZ (x7.toNat:Int) _ h17 _ _ _ (by simp only [go_sem])) ?_;simp only [go_sem,seval];apply z;refine zbn x16 (fun c18=>?_) (fun c18=>?_)
  ·replace h:=zaA c18 h;refine zah ?_;obtain ⟨x19,h20,h⟩:=bind_some h;refine zao fun _ z=>?_;simp only [go_sem,seval,c18];refine SC.by_ (zmA n x2 _ h20 _ _ _ (by simp only [go_sem])) ?_;simp only [go_sem,seval];apply z;refine zah ?_;refine zan fun _ z=>?_;simp only [go_sem,seval];apply z;refine zbn (!x19.2) (fun c21=>?_) (fun c21=>?_)
   ·replace h:=zaA c21 h;refine zan fun _ z=>?_;simp only [go_sem,seval,c21];apply z;refine zau ?_
    try simp only [zat,zaC]
    obtain rfl:=zag h;refine ⟨by simp,?_⟩;simp only [go_sem,seval,zam,zak]
   ·replace h:=zaB c21 h;refine zav ?_
    try simp only [zaa]
    refine zan fun _ z=>?_;simp only [go_sem,seval,c21];apply z;refine zan fun _ z=>?_;simp only [go_sem,seval];apply z;refine zau ?_
    try simp only [zat,zaC]
    obtain rfl:=zag h;refine ⟨by simp,?_⟩;simp only [go_sem,seval,zam,zak]
  ·replace h:=zaB c18 h;refine zav ?_
   try simp only [zaa,zaq]
   refine zah ?_;obtain ⟨⟨f23,f24⟩,h⟩:=zaM h;obtain ⟨x22,h25,h⟩:=bind_some h;refine zao fun _ z=>?_;simp only [go_sem,seval,f4,f5,c18];refine SC.by_ (zna n (a0.drop a1.toNat) _ h25 _ _ _ (by simp only [go_sem,hg2])) ?_;simp only [go_sem,seval];apply z;refine zah ?_;refine zan fun _ z=>?_;simp only [go_sem,seval];apply z;refine zbF (decide (x22=([]:Str))) (by simp only [go_sem,↓reduceIte]) (fun c26=>?_) (fun c26=>?_)
   ·replace h:=zaA c26 h;refine zan fun _ z=>?_;simp only [go_sem,seval,c26];apply z;refine zau ?_
    try simp only [zat]
    obtain rfl:=zag h;refine ⟨by simp,?_⟩;simp only [go_sem,seval,zam,zak]
   ·replace h:=zaB c26 h;refine zav ?_
    try simp only [zaa]
    refine zan fun _ z=>?_;simp only [go_sem,seval,c26];apply z;refine zau ?_;obtain rfl:=zag h;refine ⟨by simp,?_⟩;simp only [go_sem,seval,zam,zak]
def zmC (f:Str->Option ((List zbs) × Int × Int)):Prop:=∀a0 r,f a0=some r->∀(q:Pa) (m:M) (vs:List V),vs.map V.weak1=[.list .none (zfF a0)]/\m.gl 2=.eptr [(cA cS zcz)] 0 0->SC Tryz.prog 62 vs q m (fun v m'=>v=.tup [.list .none (r.1.map zbs.C),.lit (.int .i64 r.2.1),.lit (.int .i64 r.2.2)]/\m'=m)
theorem zl5 (n:Nat):zmC (zkQ n):=by
 rintro a0 r h q m vs ⟨hv,hg2⟩;refine SC.weak ?_;rw [hv];refine SC_w Tryz.func62 rfl (fun xs w=>Tryz.call62 xs w) Tryz.ntmps62 (by kernel_rfl) Tryz.results62 ?_;unfold zkQ at h;refine zan fun _ z=>?_;simp only [go_sem,Nat.reduceAdd];apply z;refine zah ?_;refine zan fun _ z=>?_;simp only [go_sem,seval];apply z;refine zbF (decide ((65536:Int)<(a0.length:Int))) (by simp only [go_sem,↓reduceIte]) (fun c1=>?_) (fun c1=>?_)
 ·replace h:=zaA c1 h;refine zan fun _ z=>?_;simp only [go_sem,Nat.reduceAdd,c1];apply z;refine zau ?_
  try simp only [zat]
  obtain rfl:=zag h;refine ⟨by simp,?_⟩;simp only [go_sem,seval,zak]
 ·replace h:=zaB c1 h;refine zav ?_
  try simp only [zaa]
  refine zan fun _ z=>?_;simp only [go_sem,seval,c1];apply z;refine zan fun _ z=>?_;simp only [go_sem,Nat.reduceAdd];apply z;refine zah ?_;refine zah ?_;obtain ⟨x2,h3,h⟩:=bind_some h;refine zao fun _ z=>?_;simp only [go_sem,seval];refine SC.by_ (zlj n a0 (0:Int) _ h3 _ _ _ (by simp only [go_sem])) ?_;simp only [go_sem,seval];apply z;refine zaG ?_;obtain ⟨y7,hy7,h⟩:=bind_some h;refine ziV 6 ([].map zbs.C) rfl (by simp only [go_sem,seval]) ?_;refine zbu [] [] rfl (fun c E' m'=>∃v5 v6 o_v5 j_v5,zfY n a0 c v5 v6=some y7/\E' 5=.lit (.string (bs a0))/\E' 6=.list (.st (.anon o_v5 j_v5)) (v5.map zbs.C)/\m'.tok o_v5 j_v5=true/\q <:+ o_v5/\E' 7=.lit (.int .i64 v6)/\m'.gl=m.gl/\m.back q m'=m) n ⟨[],x2,(13::q),0,hy7,?_⟩ ?_
  ·simp only [go_sem,seval,zaW,zak]
  rintro i4 c8 E9 m10 ⟨v5,v6,o_v5,j_v5,hy7,e11⟩ _
  rcases c8 with _ | c8
  ·exact absurd hy7 (by rw [zfY];exact fun e=>nomatch e)
  rw [zfY] at hy7;refine zah ?_;refine zan fun _ z=>?_;simp only [go_sem,seval,e11];apply z;refine zbF (decide (v6<(a0.length:Int))) (by simp only [go_sem,↓reduceIte]) (fun c12=>?_) (fun c12=>?_)
  ·replace hy7:=zaA c12 hy7;refine zav ?_
   try simp only [zaa]
   refine zah ?_;refine zaG ?_;refine zah ?_;obtain ⟨x13,h15,hy7⟩:=bind_some hy7;refine zao fun _ z=>?_;simp only [go_sem,seval,c12,e11];refine SC.by_ (znb n a0 v6 _ h15 _ _ _ (by simp only [go_sem,e11,hg2])) ?_;simp only [go_sem,seval];apply z;refine zah ?_;refine zan fun _ z=>?_;simp only [go_sem,seval];apply z;refine zbn (x13.2 != (0:Int)) (fun c16=>?_) (fun c16=>?_)
   ·replace hy7:=zaA c16 hy7;refine zan fun _ z=>?_;simp only [go_sem,seval,c16,e11];apply z;refine zau ?_
    try simp only [zat,zaC]
    obtain rfl:=zag hy7;simp only [Sum.elim_inr] at h;obtain rfl:=zag h;refine ⟨by simp,?_⟩;simp only [go_sem,seval,zam,e11]
   ·replace hy7:=zaB c16 hy7;refine zav ?_
    try simp only [zaa]
    refine zah ?_;obtain ⟨f17,hy7⟩:=zaM hy7;have f18:v5.length+1<=1073741824:=by first | omega | (simp only [List.length_append,List.length_cons,List.length_nil] at f17 ⊢;omega)
    have f19:v5.length<=1073741823:=by first | omega | (simp only [List.length_append,List.length_cons,List.length_nil] at f17 ⊢;omega)
    refine zao fun _ z=>?_;simp only [go_sem,seval,c16,f18,e11];apply z;refine zca fun _ z=>?_;simp only [go_sem,seval,e11];apply z;simp only [zaa,zaq];obtain ⟨x20,h21,hy7⟩:=bind_some hy7;refine zao fun _ z=>?_;simp only [go_sem,seval,e11];refine SC.by_ (zlj n a0 (IntKind.i64.wrap (v6+(x13.1.zbr.length:Int))) _ h21 _ _ _ (by simp only [go_sem])) ?_;simp only [go_sem,seval];apply z;refine ⟨c8,Nat.lt_succ_self _,(v5++[x13.1]),x20,(18::i4::14::q),0,hy7,?_⟩;simp only [go_sem,seval,zam,zaW,e11]
  ·replace hy7:=zaB c12 hy7;refine zbG ?_
   try simp only [zaS,zaK,↓reduceIte,zaa]
   obtain rfl:=zag hy7;simp only [Sum.elim_inl] at h;refine zah ?_;obtain ⟨f22,h⟩:=zaM h;have f23:v5.length+1<=1073741824:=by first | omega | (simp only [List.length_append,List.length_cons,List.length_nil] at f22 ⊢;omega)
   have f24:v5.length<=1073741823:=by first | omega | (simp only [List.length_append,List.length_cons,List.length_nil] at f22 ⊢;omega)
   refine zao fun _ z=>?_;simp only [go_sem,seval,c12,f23,e11];apply z;refine zau ?_;obtain rfl:=zag h;refine ⟨by simp,?_⟩;simp only [go_sem,seval,zaW,e11]
def ziZ (f:zac->Option zbs):Prop:=∀a0 r,f a0=some r->∀(q:Pa) (m:M) (vs:List V) (P0:Pa),vs.map V.weak1=[.ptr P0 0]/\m.blk P0=some ((zac.C a0))->SC Tryz.prog 64 vs q m (fun v m'=>v=.agg ((zbs.C r))/\m'=m)
theorem zbU:ziZ (zbQ):=by
 rintro a0 r h q m vs P0 ⟨hv,hmP0⟩;refine SC.weak ?_;rw [hv];refine SC.apart hmP0 fun hpP0=>?_
 try simp only [go_sem] at hmP0
 refine SC_w Tryz.func64 rfl (fun xs w=>Tryz.call64 xs w) Tryz.ntmps64 (by kernel_rfl) Tryz.results64 ?_;unfold zbQ at h;refine zan fun _ z=>?_;simp only [go_sem];apply z;refine zah ?_;obtain ⟨x2,h6,h⟩:=bind_some h;obtain ⟨f3,f4,f5⟩:=zaw h6;refine zaO (tbl:=[0,1,3,7,0,16,48,112,255,511,1023]) (ord:=[(0,0),(1,0),(2,0),(3,0),(4,0),(5,0),(6,0),(7,0),(8,0),(9,0),(10,0)]) 12 rfl (by kernel_rfl) (by kernel_rfl) fun _ z=>?_;simp only [go_sem,seval,pz1 hpP0,f3,f4,f5,hmP0];apply z;simp only [zaa];refine zau ?_;obtain rfl:=zag h;refine ⟨by simp,?_⟩;simp only [go_sem,seval,zam,zak]
def zju (f:zac->Int->Option zac):Prop:=∀a0 a1 r,f a0 a1=some r->∀(q:Pa) (m:M) (vs:List V) (P0:Pa),vs.map V.weak1=[.ptr P0 0,.lit (.int .i64 a1)]/\m.blk P0=some ((zac.C a0))->SC Tryz.prog 92 vs q m (fun v m'=>v=.tup []/\m'=(m.set P0 ((zac.C r))))
theorem zdi:zju (zcM):=by
 rintro a0 a1 r h q m vs P0 ⟨hv,hmP0⟩;refine SC.weak ?_;rw [hv];refine SC.apart hmP0 fun hpP0=>?_;have hmsP0:=za0 hmP0
 try simp only [go_sem] at hmP0 hmsP0
 refine SC_w Tryz.func92 rfl (fun xs w=>Tryz.call92 xs w) Tryz.ntmps92 (by kernel_rfl) Tryz.results92 ?_;unfold zcM at h;refine zan fun _ z=>?_;simp only [go_sem,seval,hmP0];apply z;refine zbn (a0.e_ == (0:Int)) (fun c1=>?_) (fun c1=>?_)
 ·replace h:=zaA c1 h;obtain ⟨x2,h3,h⟩:=bind_some h;refine zca fun _ z=>?_;simp only [go_sem,seval,c1];refine SC.by_ (zbU a0 _ h3 _ _ _ P0 (by simp only [go_sem,hmP0])) ?_;simp only [go_sem,seval,hmP0];apply z;simp only [];obtain rfl:=zag h;refine ⟨by simp,?_⟩;simp only [go_sem,zak,zaz hpP0]
 ·replace h:=zaB c1 h;refine zav ?_;obtain rfl:=zag h;refine ⟨by simp,?_⟩;simp only [go_sem,zak,hmsP0,c1]
def zjr (f:zac->Int->Option (zab × zac)):Prop:=∀a0 a1 r,f a0 a1=some r->∀(q:Pa) (m:M) (vs:List V) (P0:Pa),vs.map V.weak1=[.ptr P0 0,.lit (.int .i64 a1)]/\m.blk P0=some ((zac.C a0))->SC Tryz.prog 63 vs q m (fun v m'=>∃(id:Pa) (j:Nat),q <:+ id/\v=.agg ([.lit (.int .i64 r.1.zbA),.lit (.int .i64 r.1.At_),.lit (.string (bs r.1.zbr)),.lit (.int .u32 r.1.Num_),.list (.st (.anon id j)) (r.1.zax.map zab.C)])/\m'=(m.set P0 ((zac.C r.2))).tokset id j true)
theorem zb2:zjr (zbX):=by
 rintro a0 a1 r h q m vs P0 ⟨hv,hmP0⟩;refine SC.weak ?_;rw [hv];refine SC.apart hmP0 fun hpP0=>?_;have hmsP0:=za0 hmP0
 try simp only [go_sem] at hmP0 hmsP0
 refine SC_ofO Tryz.func63 rfl (fun xs w=>Tryz.call63 xs w) Tryz.ntmps63 (by kernel_rfl) ?_;unfold zbX at h;refine zan fun _ z=>?_;simp only [go_sem];apply z;refine zah ?_;refine zan fun _ z=>?_;simp only [go_sem,seval,pz1 hpP0,hmP0];apply z;refine zan fun _ z=>?_;simp only [go_sem,seval];apply z;refine zbF (decide ((16384:Int)<(IntKind.i64.wrap (a0.zhw+(1:Int))))) (by simp only [go_sem,↓reduceIte]) (fun c2=>?_) (fun c2=>?_)
 ·replace h:=zaA c2 h;obtain ⟨x3,h4,h⟩:=bind_some h;refine zao fun _ z=>?_;simp only [go_sem,seval,c2];refine SC.by_ (zdi ({ a0 with zhw:=(IntKind.i64.wrap (a0.zhw+(1:Int))) }:zac) (136:Int) _ h4 _ _ _ P0 (by simp only [go_sem,↓reduceIte])) ?_;simp only [go_sem,Nat.reduceAdd];apply z;refine zah ?_;obtain ⟨x5,h6,h⟩:=bind_some h;refine zao fun _ z=>?_;simp only [go_sem,seval];refine SC.by_ (zbU x3 _ h6 _ _ _ P0 (by simp only [go_sem,↓reduceIte])) ?_;simp only [go_sem,seval,pz1 hpP0];apply z;refine zau ?_;obtain rfl:=zag h;refine ⟨by simp,?_⟩;refine ⟨(22::q),0,_,(by simp only [go_sem]),.cell (t:=4) (T:=90) (b:=(0::q)) (cs:=[.lit (.int .i64 a1),.lit (.int .i64 x5.At_),.lit (.string (bs [])),.lit (.int .u32 (0:Int)),.list .self ([].map zab.C)]) (off:=4) (rows:=([].map zab.C)) (congrArg Array.toList Tryz.results63) (by simp only [go_sem,seval]) (by simp only [go_sem]) (by simp only [go_sem,↓reduceIte]) (by simp only [go_sem]) (by simp only [go_sem,Nat.reduceAdd]) rfl,(22::q),0,(by simp only [go_sem]),?_,?_⟩ <;> simp only [go_sem,zam,zaY,zak,zaz hpP0]
 ·replace h:=zaB c2 h;refine zav ?_
  try simp only [zaa]
  refine zah ?_;obtain ⟨x7,h8,h⟩:=bind_some h;refine zao fun _ z=>?_;simp only [go_sem,seval,c2];refine SC.by_ (zbU ({ a0 with zhw:=(IntKind.i64.wrap (a0.zhw+(1:Int))) }:zac) _ h8 _ _ _ P0 (by simp only [go_sem,↓reduceIte])) ?_;simp only [go_sem,seval,pz1 hpP0];apply z;refine zau ?_;obtain rfl:=zag h;refine ⟨by simp,?_⟩;refine ⟨(20::q),0,_,(by simp only [go_sem]),.cell (t:=4) (T:=90) (b:=(0::q)) (cs:=[.lit (.int .i64 a1),.lit (.int .i64 x7.At_),.lit (.string (bs [])),.lit (.int .u32 (0:Int)),.list .self ([].map zab.C)]) (off:=4) (rows:=([].map zab.C)) (congrArg Array.toList Tryz.results63) (by simp only [go_sem,seval]) (by simp only [go_sem]) (by simp only [go_sem,↓reduceIte]) (by simp only [go_sem]) (by simp only [go_sem,Nat.reduceAdd]) rfl,(20::q),0,(by simp only [go_sem]),?_,?_⟩ <;> simp only [go_sem,zam,zaY,zak,zaz hpP0]
def zgp (f:(List Str)->Str->Option Int):Prop:=∀a0 a1 r,f a0 a1=some r->∀(q:Pa) (m:M) (vs:List V),vs.map V.weak1=[.list .none (a0.map cS),.lit (.string (bs a1))]->SC Tryz.prog 212 vs q m (fun v m'=>v=.lit (.int .i64 r)/\m'=m)
theorem zge (n:Nat):zgp (zdM n):=by
 intro a0 a1 r h q m vs hv;refine SC.weak ?_;rw [hv];refine SC_w Tryz.func212 rfl (fun xs w=>Tryz.call212 xs w) Tryz.ntmps212 (by kernel_rfl) Tryz.results212 ?_;unfold zdM at h;refine zan fun _ z=>?_;simp only [go_sem];apply z;refine zah ?_;refine zan fun _ z=>?_;simp only [go_sem,seval];apply z;refine zaG ?_;obtain ⟨y3,hy3,h⟩:=bind_some h;refine zbu [] [] rfl (fun c E' m'=>∃v2,zb6 a0 a1 c v2=some y3/\E' 0=.list .none (a0.map cS)/\E' 1=.lit (.string (bs a1))/\E' 7=.lit (.int .i64 (a0.length:Int))/\E' 8=.lit (.int .i64 v2)/\m'.gl=m.gl/\m.back q m'=m) n ⟨(0:Int),hy3,?_⟩ ?_
 ·simp only [go_sem,seval,zak]
 rintro i1 c4 E5 m6 ⟨v2,hy3,e7⟩ _
 rcases c4 with _ | c4
 ·exact absurd hy3 (by rw [zb6];exact fun e=>nomatch e)
 rw [zb6] at hy3;refine zan fun _ z=>?_;simp only [go_sem,e7];apply z;refine zah ?_;refine zbF (decide (v2<(a0.length:Int))) (by simp only [go_sem,↓reduceIte]) (fun c8=>?_) (fun c8=>?_)
 ·replace hy3:=zaA c8 hy3;refine zav ?_
  try simp only [zaa]
  refine zah ?_;refine zaG ?_;refine zan fun _ z=>?_;simp only [go_sem,seval,c8,e7];apply z;refine zah ?_;obtain ⟨x9,h13,hy3⟩:=bind_some hy3;obtain ⟨f10,f11,f12⟩:=zaw h13;refine zao fun _ z=>?_;simp only [go_sem,seval,f10,f11,f12,e7];apply z;refine zbn (decide (a1=x9)) (fun c14=>?_) (fun c14=>?_)
  ·replace hy3:=zaA c14 hy3;refine zan fun _ z=>?_;simp only [go_sem,seval,c14];apply z;refine zau ?_
   try simp only [zat,zaC]
   obtain rfl:=zag hy3;simp only [Sum.elim_inr] at h;obtain rfl:=zag h;refine ⟨by simp,?_⟩;simp only [go_sem,↓reduceIte,e7]
  ·replace hy3:=zaB c14 hy3;refine zav ?_
   try simp only [zaa,zaq]
   refine zao fun _ z=>?_;simp only [go_sem,seval,c14,e7];apply z;refine ⟨c4,Nat.lt_succ_self _,(IntKind.i64.wrap (v2+(1:Int))),hy3,?_⟩;simp only [go_sem,seval,e7]
 ·replace hy3:=zaB c8 hy3;refine zbG ?_
  try simp only [zaS,zaK,↓reduceIte,zaa]
  obtain rfl:=zag hy3;simp only [Sum.elim_inl] at h;refine zan fun _ z=>?_;simp only [go_sem,Nat.reduceAdd,c8];apply z;refine zau ?_;obtain rfl:=zag h;refine ⟨by simp,?_⟩;simp only [go_sem,↓reduceIte,e7]
def zfS (f:(List Str)->Str->Option Bool):Prop:=∀a0 a1 r,f a0 a1=some r->∀(q:Pa) (m:M) (vs:List V),vs.map V.weak1=[.list .none (a0.map cS),.lit (.string (bs a1))]->SC Tryz.prog 183 vs q m (fun v m'=>v=.lit (.bool r)/\m'=m)
theorem zfQ (n:Nat):zfS (zdn n):=by
 intro a0 a1 r h q m vs hv;refine SC.weak ?_;rw [hv];refine SC_w Tryz.func183 rfl (fun xs w=>Tryz.call183 xs w) Tryz.ntmps183 (by kernel_rfl) Tryz.results183 ?_;unfold zdn at h;refine zan fun _ z=>?_;simp only [go_sem];apply z;refine zah ?_;obtain ⟨x1,h2,h⟩:=bind_some h;refine zao fun _ z=>?_;simp only [go_sem,seval];refine SC.by_ (zge n a0 a1 _ h2 _ _ _ (by simp only [go_sem])) ?_;simp only [go_sem,seval];apply z;refine zau ?_;obtain rfl:=zag h;refine ⟨by simp,?_⟩;simp only [go_sem,↓reduceIte,zak]
def zmx (f:Str->Option Bool):Prop:=∀a0 r,f a0=some r->∀(q:Pa) (m:M) (vs:List V),vs.map V.weak1=[.lit (.string (bs a0))]/\m.gl 3=.eptr [(cA cS zaZ)] 0 0->SC Tryz.prog 147 vs q m (fun v m'=>v=.lit (.bool r)/\m'=m)
theorem zkz (n:Nat):zmx (zjM n):=by
 rintro a0 r h q m vs ⟨hv,hg3⟩;refine SC.weak ?_;rw [hv];refine SC_w Tryz.func147 rfl (fun xs w=>Tryz.call147 xs w) Tryz.ntmps147 (by kernel_rfl) Tryz.results147 ?_;unfold zjM at h;refine zan fun _ z=>?_;simp only [go_sem];apply z;refine zah ?_;obtain ⟨x1,h2,h⟩:=bind_some h;refine zao fun _ z=>?_;simp only [go_sem,seval,Int.reduceToNat,hg3];refine SC.by_ (zfQ n zaZ a0 _ h2 _ _ _ (by simp only [go_sem])) ?_;simp only [go_sem,seval];apply z;refine zau ?_;obtain rfl:=zag h;refine ⟨by simp,?_⟩;simp only [go_sem,↓reduceIte,zak]
def zkm (f:zac->Str->Option Bool):Prop:=∀a0 a1 r,f a0 a1=some r->∀(q:Pa) (m:M) (vs:List V) (P0:Pa),vs.map V.weak1=[.ptr P0 0,.lit (.string (bs a1))]/\m.blk P0=some ((zac.C a0))/\m.gl 3=.eptr [(cA cS zaZ)] 0 0->SC Tryz.prog 146 vs q m (fun v m'=>v=.lit (.bool r)/\m'=m)
theorem zdK (n:Nat):zkm (zdo n):=by
 rintro a0 a1 r h q m vs P0 ⟨hv,hmP0,hg3⟩;refine SC.weak ?_;rw [hv];refine SC.apart hmP0 fun hpP0=>?_
 try simp only [go_sem] at hmP0
 refine SC_w Tryz.func146 rfl (fun xs w=>Tryz.call146 xs w) Tryz.ntmps146 (by kernel_rfl) Tryz.results146 ?_;unfold zdo at h;refine zan fun _ z=>?_;simp only [go_sem];apply z;refine zah ?_;obtain ⟨x1,h3,h⟩:=bind_some h;refine zao fun _ z=>?_;simp only [go_sem,seval];refine SC.by_ (zbU a0 _ h3 _ _ _ P0 (by simp only [go_sem,hmP0])) ?_;simp only [go_sem,seval];apply z;refine zah ?_;obtain ⟨y4,hy4,h⟩:=bind_some h;refine zbf 31 [] [] rfl (fun E' m'=>E' 4=.lit (.bool y4)/\m'.blk P0=some ((zac.C a0))/\m'.gl=m.gl/\m.back q m'=m) ?_ ?_
 ·rcases za9 (a0.e_ == (0:Int)) with c5 | c5
  ·replace hy4:=zaA c5 hy4
   rcases za9 (decide (x1.zbr=a1)) with c6 | c6
   ·replace hy4:=zaA c6 hy4
    rcases za9 (x1.zbA == (3:Int)) with c7 | c7
    ·replace hy4:=zaA c7 hy4;refine zao fun _ z=>?_;simp only [go_sem,seval,pz1 hpP0,c5,c6,c7,hmP0];apply z;obtain rfl:=zag hy4;refine ⟨by decide,?_⟩;simp only [go_sem,↓reduceIte,zam,zak,pz1 hpP0,hmP0]
    ·replace hy4:=zaB c7 hy4
     rcases za9 (x1.zbA == (1:Int)) with c8 | c8
     ·replace hy4:=zaA c8 hy4;obtain ⟨x9,h10,hy4⟩:=bind_some hy4;refine zao fun _ z=>?_;simp only [go_sem,seval,pz1 hpP0,c5,c6,c7,c8,hmP0];refine SC.by_ (zkz n a1 _ h10 _ _ _ (by simp only [go_sem,hg3])) ?_;simp only [go_sem,seval];apply z;obtain rfl:=zag hy4;refine ⟨by decide,?_⟩;simp only [go_sem,↓reduceIte,zam,zak,pz1 hpP0,hmP0]
     ·replace hy4:=zaB c8 hy4;refine zao fun _ z=>?_;simp only [go_sem,seval,pz1 hpP0,c5,c6,c7,c8,hmP0];apply z;obtain rfl:=zag hy4;refine ⟨by decide,?_⟩;simp only [go_sem,↓reduceIte,zam,zak,pz1 hpP0,hmP0]
   ·replace hy4:=zaB c6 hy4;refine zao fun _ z=>?_;simp only [go_sem,seval,pz1 hpP0,c5,c6,hmP0];apply z;obtain rfl:=zag hy4;refine ⟨by decide,?_⟩;simp only [go_sem,↓reduceIte,zam,zak,pz1 hpP0,hmP0]
  ·replace hy4:=zaB c5 hy4;refine zao fun _ z=>?_;simp only [go_sem,seval,pz1 hpP0,c5,hmP0];apply z;obtain rfl:=zag hy4;refine ⟨by decide,?_⟩;simp only [go_sem,↓reduceIte,zam,zak,pz1 hpP0,hmP0]
 ·intro E11 m12 e13 _;simp only [zaa];refine zau ?_;obtain rfl:=zag h;refine ⟨by simp,?_⟩;simp only [go_sem,e13]
def zjo (f:zac->Str->Option (Bool × zac)):Prop:=∀a0 a1 r,f a0 a1=some r->∀(q:Pa) (m:M) (vs:List V) (P0:Pa),vs.map V.weak1=[.ptr P0 0,.lit (.string (bs a1))]/\m.blk P0=some ((zac.C a0))/\m.gl 3=.eptr [(cA cS zaZ)] 0 0->SC Tryz.prog 93 vs q m (fun v m'=>v=.lit (.bool r.1)/\m'=(m.set P0 ((zac.C r.2))))
theorem zaN (n:Nat):zjo (zaR n):=by
 rintro a0 a1 r h q m vs P0 ⟨hv,hmP0,hg3⟩;refine SC.weak ?_;rw [hv];refine SC.apart hmP0 fun hpP0=>?_;have hmsP0:=za0 hmP0
 try simp only [go_sem] at hmP0 hmsP0
 refine SC_w Tryz.func93 rfl (fun xs w=>Tryz.call93 xs w) Tryz.ntmps93 (by kernel_rfl) Tryz.results93 ?_;unfold zaR at h;refine zan fun _ z=>?_;simp only [go_sem];apply z;refine zah ?_;refine zah ?_;obtain ⟨x1,h2,h⟩:=bind_some h;refine zao fun _ z=>?_;simp only [go_sem,seval];refine SC.by_ (zdK n a0 a1 _ h2 _ _ _ P0 (by simp only [go_sem,hmP0,hg3])) ?_;simp only [go_sem,seval];apply z;refine zbn (!x1) (fun c3=>?_) (fun c3=>?_)
 ·replace h:=zaA c3 h;refine zan fun _ z=>?_;simp only [go_sem,Nat.reduceAdd,c3];apply z;refine zau ?_
  try simp only [zat]
  obtain rfl:=zag h;refine ⟨by simp,?_⟩;simp only [go_sem,↓reduceIte,zak,hmsP0]
 ·replace h:=zaB c3 h;refine zav ?_
  try simp only [zaa]
  refine zan fun _ z=>?_;simp only [go_sem,seval,c3,hmP0];apply z;refine zan fun _ z=>?_;simp only [go_sem,Nat.reduceAdd];apply z;refine zau ?_;obtain rfl:=zag h;refine ⟨by simp,?_⟩;simp only [go_sem,↓reduceIte,zak,zaz hpP0]
def zjs (f:zac->Str->Option zac):Prop:=∀a0 a1 r,f a0 a1=some r->∀(q:Pa) (m:M) (vs:List V) (P0:Pa),vs.map V.weak1=[.ptr P0 0,.lit (.string (bs a1))]/\m.blk P0=some ((zac.C a0))/\m.gl 3=.eptr [(cA cS zaZ)] 0 0->SC Tryz.prog 94 vs q m (fun v m'=>v=.tup []/\m'=(m.set P0 ((zac.C r))))
theorem zaH (n:Nat):zjs (zaL n):=by
 rintro a0 a1 r h q m vs P0 ⟨hv,hmP0,hg3⟩;refine SC.weak ?_;rw [hv];refine SC.apart hmP0 fun hpP0=>?_;have hmsP0:=za0 hmP0
 try simp only [go_sem] at hmP0 hmsP0
 refine SC_w Tryz.func94 rfl (fun xs w=>Tryz.call94 xs w) Tryz.ntmps94 (by kernel_rfl) Tryz.results94 ?_;unfold zaL at h;refine zah ?_;obtain ⟨x1,h2,h⟩:=bind_some h;refine zao fun _ z=>?_;simp only [go_sem,seval];refine SC.by_ (zaN n a0 a1 _ h2 _ _ _ P0 (by simp only [go_sem,hmP0,hg3])) ?_;simp only [go_sem,seval];apply z;refine zbn (!x1.1) (fun c3=>?_) (fun c3=>?_)
 ·replace h:=zaA c3 h;obtain ⟨x4,h5,h⟩:=bind_some h;refine zca fun _ z=>?_;simp only [go_sem,seval,c3];refine SC.by_ (zdi x1.2 (110:Int) _ h5 _ _ _ P0 (by simp only [go_sem,↓reduceIte])) ?_;simp only [go_sem,Nat.reduceAdd];apply z;simp only [];obtain rfl:=zag h;refine ⟨by simp,?_⟩;simp only [go_sem,zak,zaz hpP0]
 ·replace h:=zaB c3 h;refine zav ?_;obtain rfl:=zag h;refine ⟨by simp,?_⟩;simp only [go_sem,zak,zaz hpP0,c3]
def zjt (f:zac->Option (Str × zac)):Prop:=∀a0 r,f a0=some r->∀(q:Pa) (m:M) (vs:List V) (P0:Pa),vs.map V.weak1=[.ptr P0 0]/\m.blk P0=some ((zac.C a0))/\m.gl 3=.eptr [(cA cS zaZ)] 0 0->SC Tryz.prog 95 vs q m (fun v m'=>v=.lit (.string (bs r.1))/\m'=(m.set P0 ((zac.C r.2))))
theorem zb3 (n:Nat):zjt (zbY n):=by
 rintro a0 r h q m vs P0 ⟨hv,hmP0,hg3⟩;refine SC.weak ?_;rw [hv];refine SC.apart hmP0 fun hpP0=>?_;have hmsP0:=za0 hmP0
 try simp only [go_sem] at hmP0 hmsP0
 refine SC_w Tryz.func95 rfl (fun xs w=>Tryz.call95 xs w) Tryz.ntmps95 (by kernel_rfl) Tryz.results95 ?_;unfold zbY at h;refine zan fun _ z=>?_;simp only [go_sem];apply z;refine zah ?_;obtain ⟨x1,h3,h⟩:=bind_some h;refine zao fun _ z=>?_;simp only [go_sem,seval];refine SC.by_ (zbU a0 _ h3 _ _ _ P0 (by simp only [go_sem,hmP0])) ?_;simp only [go_sem,seval];apply z;refine zah ?_;refine zah ?_;obtain ⟨y4,hy4,h⟩:=bind_some h;refine zbf 20 [] [] rfl (fun E' m'=>E' 0=.ptr P0 0/\E' 3=.ptr (3::q) 0/\E' 20=.lit (.bool y4)/\m'.blk P0=some ((zac.C a0))/\m'.blk (3::q)=some ((zbs.C x1))/\m'.gl=m.gl/\m.back q m'=(m.set P0 ((zac.C a0)))) ?_ ?_
 ·rcases za9 (a0.e_ != (0:Int)) with c5 | c5
  ·replace hy4:=zaA c5 hy4;refine zao fun _ z=>?_;simp only [go_sem,seval,pz1 hpP0,c5,hmP0];apply z;obtain rfl:=zag hy4;refine ⟨by decide,?_⟩;simp only [go_sem,seval,zam,zak,hmsP0,pz1 hpP0,hmP0]
  ·replace hy4:=zaB c5 hy4
   rcases za9 (x1.zbA != (1:Int)) with c6 | c6
   ·replace hy4:=zaA c6 hy4;refine zao fun _ z=>?_;simp only [go_sem,seval,pz1 hpP0,c5,c6,hmP0];apply z;obtain rfl:=zag hy4;refine ⟨by decide,?_⟩;simp only [go_sem,seval,zam,zak,hmsP0,pz1 hpP0,hmP0]
   ·replace hy4:=zaB c6 hy4;obtain ⟨x7,h8,hy4⟩:=bind_some hy4;refine zao fun _ z=>?_;simp only [go_sem,seval,pz1 hpP0,c5,c6,hmP0];refine SC.by_ (zkz n x1.zbr _ h8 _ _ _ (by simp only [go_sem,hg3])) ?_;simp only [go_sem,seval];apply z;obtain rfl:=zag hy4;refine ⟨by decide,?_⟩;simp only [go_sem,seval,zam,zak,hmsP0,pz1 hpP0,hmP0]
 ·intro E9 m10 e11 _;simp only [zaa];refine zbF y4 (by simp only [go_sem,e11]) (fun c12=>?_) (fun c12=>?_)
  ·replace h:=zaA c12 h;refine zah ?_;obtain ⟨x13,h14,h⟩:=bind_some h;refine zao fun _ z=>?_;simp only [go_sem,seval,e11];refine SC.by_ (zdi a0 (110:Int) _ h14 _ _ _ P0 (by simp only [go_sem,e11])) ?_;simp only [go_sem,Nat.reduceAdd];apply z;refine zan fun _ z=>?_;simp only [go_sem,Nat.reduceAdd];apply z;refine zau ?_
   try simp only [zat]
   obtain rfl:=zag h;refine ⟨by simp,?_⟩;simp only [go_sem,↓reduceIte,zaz hpP0,hmsP0,e11]
  ·replace h:=zaB c12 h;refine zav ?_
   try simp only [zaa]
   refine zan fun _ z=>?_;simp only [go_sem,seval,e11];apply z;refine zan fun _ z=>?_;simp only [go_sem,seval,pz1 hpP0,e11];apply z;refine zau ?_;obtain rfl:=zag h;refine ⟨by simp,?_⟩;simp only [go_sem,↓reduceIte,zaz hpP0,hmsP0,e11]
def ziy (f:zac->Option (Int × zac)):Prop:=∀a0 r,f a0=some r->∀(q:Pa) (m:M) (vs:List V) (P0:Pa),vs.map V.weak1=[.ptr P0 0]/\m.blk P0=some ((zac.C a0))->SC Tryz.prog 184 vs q m (fun v m'=>v=.lit (.int .u32 r.1)/\m'=(m.set P0 ((zac.C r.2))))
theorem zfM:ziy (zd6):=by
 rintro a0 r h q m vs P0 ⟨hv,hmP0⟩;refine SC.weak ?_;rw [hv];refine SC.apart hmP0 fun hpP0=>?_;have hmsP0:=za0 hmP0
 try simp only [go_sem] at hmP0 hmsP0
 refine SC_w Tryz.func184 rfl (fun xs w=>Tryz.call184 xs w) Tryz.ntmps184 (by kernel_rfl) Tryz.results184 ?_;unfold zd6 at h;refine zan fun _ z=>?_;simp only [go_sem];apply z;refine zah ?_;obtain ⟨x1,h3,h⟩:=bind_some h;refine zao fun _ z=>?_;simp only [go_sem,seval];refine SC.by_ (zbU a0 _ h3 _ _ _ P0 (by simp only [go_sem,hmP0])) ?_;simp only [go_sem,seval];apply z;refine zah ?_;refine zah ?_;obtain ⟨y4,hy4,h⟩:=bind_some h;refine zbf 15 [] [] rfl (fun E' m'=>E' 0=.ptr P0 0/\E' 3=.ptr (3::q) 0/\E' 15=.lit (.bool y4)/\m'.blk P0=some ((zac.C a0))/\m'.blk (3::q)=some ((zbs.C x1))/\m'.gl=m.gl/\m.back q m'=(m.set P0 ((zac.C a0)))) ?_ ?_
 ·rcases za9 (a0.e_ != (0:Int)) with c5 | c5
  ·replace hy4:=zaA c5 hy4;refine zao fun _ z=>?_;simp only [go_sem,seval,pz1 hpP0,c5,hmP0];apply z;obtain rfl:=zag hy4;refine ⟨by decide,?_⟩;simp only [go_sem,seval,zam,zak,hmsP0,pz1 hpP0,hmP0]
  ·replace hy4:=zaB c5 hy4;refine zao fun _ z=>?_;simp only [go_sem,seval,pz1 hpP0,c5,hmP0];apply z;obtain rfl:=zag hy4;refine ⟨by decide,?_⟩;simp only [go_sem,seval,zam,zak,hmsP0,pz1 hpP0,hmP0]
 ·intro E6 m7 e8 _;simp only [zaa];refine zbF y4 (by simp only [go_sem,e8]) (fun c9=>?_) (fun c9=>?_)
  ·replace h:=zaA c9 h;refine zah ?_;obtain ⟨x10,h11,h⟩:=bind_some h;refine zao fun _ z=>?_;simp only [go_sem,seval,e8];refine SC.by_ (zdi a0 (110:Int) _ h11 _ _ _ P0 (by simp only [go_sem,e8])) ?_;simp only [go_sem,Nat.reduceAdd];apply z;refine zan fun _ z=>?_;simp only [go_sem,Nat.reduceAdd];apply z;refine zau ?_
   try simp only [zat]
   obtain rfl:=zag h;refine ⟨by simp,?_⟩;simp only [go_sem,↓reduceIte,zaz hpP0,hmsP0,e8]
  ·replace h:=zaB c9 h;refine zav ?_
   try simp only [zaa]
   refine zan fun _ z=>?_;simp only [go_sem,seval,e8];apply z;refine zan fun _ z=>?_;simp only [go_sem,seval,pz1 hpP0,e8];apply z;refine zau ?_;obtain rfl:=zag h;refine ⟨by simp,?_⟩;simp only [go_sem,↓reduceIte,zaz hpP0,hmsP0,e8]
def zjp (f:zac->Option (Int × zac)):Prop:=∀a0 r,f a0=some r->∀(q:Pa) (m:M) (vs:List V) (P0:Pa),vs.map V.weak1=[.ptr P0 0]/\m.blk P0=some ((zac.C a0))/\m.gl 3=.eptr [(cA cS zaZ)] 0 0->SC Tryz.prog 148 vs q m (fun v m'=>v=.lit (.int .u32 r.1)/\m'=(m.set P0 ((zac.C r.2))))
theorem zf9 (n:Nat):zjp (zeC n):=by
 rintro a0 r h q m vs P0 ⟨hv,hmP0,hg3⟩;refine SC.weak ?_;rw [hv];refine SC.apart hmP0 fun hpP0=>?_;have hmsP0:=za0 hmP0
 try simp only [go_sem] at hmP0 hmsP0
 refine SC_w Tryz.func148 rfl (fun xs w=>Tryz.call148 xs w) Tryz.ntmps148 (by kernel_rfl) Tryz.results148 ?_;unfold zeC at h;refine zan fun _ z=>?_;simp only [go_sem];apply z;refine zah ?_;obtain ⟨x1,h2,h⟩:=bind_some h;refine zao fun _ z=>?_;simp only [go_sem,seval];refine SC.by_ (zaH n a0 ([91]:Str) _ h2 _ _ _ P0 (by simp only [go_sem,hmP0,hg3])) ?_;simp only [go_sem,Nat.reduceAdd];apply z;refine zah ?_;obtain ⟨x3,h4,h⟩:=bind_some h;refine zao fun _ z=>?_;simp only [go_sem,seval];refine SC.by_ (zfM x1 _ h4 _ _ _ P0 (by simp only [go_sem,↓reduceIte])) ?_;simp only [go_sem,seval];apply z;refine zah ?_;obtain ⟨x5,h6,h⟩:=bind_some h;refine zao fun _ z=>?_;simp only [go_sem,seval];refine SC.by_ (zaH n x3.2 ([93]:Str) _ h6 _ _ _ P0 (by simp only [go_sem,↓reduceIte,hg3])) ?_;simp only [go_sem,Nat.reduceAdd];apply z;refine zan fun _ z=>?_;simp only [go_sem,seval];apply z;refine zau ?_;obtain rfl:=zag h;refine ⟨by simp,?_⟩;simp only [go_sem,↓reduceIte,zak,zaz hpP0]
def zi1 (f:zac->Option (zab × zac)):Prop:=∀a0 r,f a0=some r->∀(q:Pa) (m:M) (vs:List V) (P0:Pa),vs.map V.weak1=[.ptr P0 0]/\m.blk P0=some ((zac.C a0))/\m.gl 3=.eptr [(cA cS zaZ)] 0 0->SC Tryz.prog 97 vs q m (fun v m'=>v=.agg ((zab.C r.1))/\m'=(m.set P0 ((zac.C r.2))))
theorem zix (n:Nat):zi1 (zfx n):=by
 rintro a0 r h q m vs P0 ⟨hv,hmP0,hg3⟩;refine SC.weak ?_;rw [hv];refine SC.apart hmP0 fun hpP0=>?_;have hmsP0:=za0 hmP0
 try simp only [go_sem] at hmP0 hmsP0
 refine SC_w Tryz.func97 rfl (fun xs w=>Tryz.call97 xs w) Tryz.ntmps97 (by kernel_rfl) Tryz.results97 ?_;unfold zfx at h;refine zan fun _ z=>?_;simp only [go_sem];apply z;refine zah ?_;obtain ⟨x2,h4,h⟩:=bind_some h;refine zao fun _ z=>?_;simp only [go_sem,seval];refine SC.mono (zb2 a0 (3:Int) _ h4 _ _ _ P0 (by simp only [go_sem,↓reduceIte,pz2 hpP0,hmP0])) ?_;rintro _ _ ⟨o_x2,j_x2,s_x2,rfl,rfl⟩;replace s_x2:q <:+ o_x2:=List.IsSuffix.trans (by simp only [go_sem]) s_x2;simp only [go_sem,seval];apply z;refine zah ?_;obtain ⟨x5,h6,h⟩:=bind_some h;refine zao fun _ z=>?_;simp only [go_sem,seval];refine SC.by_ (zb3 n x2.2 _ h6 _ _ _ P0 (by simp only [go_sem,↓reduceIte,pz2 hpP0,hg3])) ?_;simp only [go_sem,seval,pz2 hpP0];apply z;refine zah ?_;obtain ⟨x7,h8,h⟩:=bind_some h;refine zao fun _ z=>?_;simp only [go_sem,seval];refine SC.by_ (zaH n x5.2 ([58]:Str) _ h8 _ _ _ P0 (by simp only [go_sem,↓reduceIte,pz2 hpP0,hg3])) ?_;simp only [go_sem,Nat.reduceAdd];apply z;refine zah ?_;refine zan fun _ z=>?_;simp only [go_sem,seval];apply z;refine zaG ?_;obtain ⟨y14,hy14,h⟩:=bind_some h;refine zbu [] [] rfl (fun c E' m'=>∃v10 v11 v12 v13,zcT n c v10 v11 v12 v13=some y14/\E' 0=.ptr P0 0/\E' 2=.ptr (0::q) 0/\E' 3=.ptr (3::q) 0/\E' 14=.agg ((cA cS zfU))/\E' 15=.lit (.int .i64 v10)/\m'.blk P0=some ((zac.C v11))/\m'.blk (0::q)=some ([.lit (.int .i64 v12.zbA),.lit (.int .i64 v12.At_),.lit (.string (bs v12.zbr)),.lit (.int .u32 v12.Num_),.list .self (v12.zax.map zab.C)])/\m'.blk (3::q)=some ([.lit (.int .i64 v13.zbA),.lit (.int .i64 v13.At_),.lit (.string (bs v13.zbr)),.lit (.int .u32 v13.Num_),.list .self (v13.zax.map zab.C)])/\m'.gl=m.gl/\m.back q m'=(m.set P0 ((zac.C v11)))) n ⟨(0:Int),x7,(zab.mk (0:Int) (0:Int) [] (0:Int) []),({ x2.1 with zbr:=x5.1 }:zab),hy14,?_⟩ ?_
 ·(simp only [go_sem,seval,zam,zaY,zaW,zak,zaz hpP0,pz2 hpP0,s_x2]) <;> (try and_intros) <;> rfl
 rintro i9 c15 E16 m17 ⟨v10,v11,v12,v13,hy14,e18⟩ _
 rcases c15 with _ | c15
 ·exact absurd hy14 (by rw [zcT];exact fun e=>nomatch e)
 rw [zcT] at hy14;refine zan fun _ z=>?_;simp only [go_sem,e18];apply z;refine zah ?_;refine zbF (decide (v10<(3:Int))) (by simp only [go_sem,↓reduceIte]) (fun c19=>?_) (fun c19=>?_)
 ·replace hy14:=zaA c19 hy14;refine zav ?_
  try simp only [zaa]
  refine zah ?_;refine zaG ?_;refine zah ?_;obtain ⟨x20,h24,hy14⟩:=bind_some hy14;obtain ⟨f21,f22,f23⟩:=zaw h24;have f25:v10<(3:Int):=f22;obtain ⟨w26,d27⟩:=zks (f:=cS) (s:=1) (fun _ _=>rfl) f23;simp only [go_sem] at d27;have d28:List.drop (v10.toNat) [V.lit (.string (bs ([112,117,98]:Str))),V.lit (.string (bs ([117,51,50]:Str))),V.lit (.string (bs ([117,54,52]:Str)))]=_:=d27;refine zao fun _ z=>?_;simp only [go_sem,seval,f21,f25,d27,e18];apply z;refine zah ?_;obtain ⟨x29,h30,hy14⟩:=bind_some hy14;refine zao fun _ z=>?_;simp only [go_sem,seval,e18];refine SC.by_ (zaN n v11 x20 _ h30 _ _ _ P0 (by simp only [go_sem,e18,hg3])) ?_;simp only [go_sem,Nat.reduceAdd];apply z;refine zbn x29.1 (fun c31=>?_) (fun c31=>?_)
  ·replace hy14:=zaA c31 hy14;refine zan fun _ z=>?_;simp only [go_sem,seval,pz2 hpP0,c31,e18];apply z;refine zan fun _ z=>?_;simp only [go_sem,seval,pz2 hpP0,e18];apply z;refine zau ?_
   try simp only [zat,zaC]
   obtain rfl:=zag hy14;simp only [Sum.elim_inr] at h;obtain rfl:=zag h;refine ⟨by simp,?_⟩;simp only [go_sem,seval,zam,zaz hpP0,e18]
  ·replace hy14:=zaB c31 hy14;refine zav ?_
   try simp only [zaa,zaq]
   refine zao fun _ z=>?_;simp only [go_sem,seval,c31,e18];apply z;refine ⟨c15,Nat.lt_succ_self _,(IntKind.i64.wrap (v10+(1:Int))),x29.2,v12,v13,hy14,?_⟩
   (simp only [go_sem,seval,zaz hpP0,pz2 hpP0,e18]) <;> (try and_intros) <;> rfl
 ·replace hy14:=zaB c19 hy14;refine zbG ?_
  try simp only [zaS,zaK,↓reduceIte,zaa]
  obtain rfl:=zag hy14;simp only [Sum.elim_inl] at h;refine zan fun _ z=>?_;simp only [go_sem,seval,c19,e18];apply z;refine zah ?_;obtain ⟨x32,h34,h⟩:=bind_some h;refine zao fun _ z=>?_;simp only [go_sem,seval,e18];refine SC.mono (zb2 v11 (14:Int) _ h34 _ _ _ P0 (by simp only [go_sem,↓reduceIte,pz2 hpP0,e18])) ?_;rintro _ _ ⟨o_x32,j_x32,s_x32,rfl,rfl⟩;replace s_x32:q <:+ o_x32:=List.IsSuffix.trans (by simp only [go_sem]) s_x32;simp only [go_sem,seval];apply z;refine zah ?_;obtain ⟨x35,h36,h⟩:=bind_some h;refine zao fun _ z=>?_;simp only [go_sem,seval,e18];refine SC.by_ (zf9 n x32.2 _ h36 _ _ _ P0 (by simp only [go_sem,↓reduceIte,pz2 hpP0,e18,hg3])) ?_;simp only [go_sem,seval,pz2 hpP0];apply z;refine zan fun _ z=>?_;simp only [go_sem,seval,pz2 hpP0,e18];apply z;refine zan fun _ z=>?_;simp only [go_sem,seval,pz2 hpP0,e18];apply z;refine zau ?_;obtain rfl:=zag h;refine ⟨by simp,?_⟩;simp only [go_sem,seval,zam,zaY,zaW,zaz hpP0,s_x32,e18]
def zgR (f:zac->Option ((List zab) × zac)):Prop:=∀a0 r,f a0=some r->∀(q:Pa) (m:M) (vs:List V) (P0:Pa),vs.map V.weak1=[.ptr P0 0,.fn (.func 97) [.ptr P0 0] []]/\m.blk P0=some ((zac.C a0))/\m.gl 3=.eptr [(cA cS zaZ)] 0 0->SC Tryz.prog 96 vs q m (fun v m'=>∃(id:Pa) (j:Nat),q <:+ id/\v=.list (.st (.anon id j)) (r.1.map zab.C)/\m'=(m.set P0 ((zac.C r.2))).tokset id j true)
theorem zeR (n:Nat):zgR (zde n):=by
 rintro a0 r h q m vs P0 ⟨hv,hmP0,hg3⟩;refine SC.weak ?_;rw [hv];refine SC.apart hmP0 fun hpP0=>?_;have hmsP0:=za0 hmP0
 try simp only [go_sem] at hmP0 hmsP0
 refine SC_ofO Tryz.func96 rfl (fun xs w=>Tryz.call96 xs w) Tryz.ntmps96 (by kernel_rfl) ?_;unfold zde at h;refine zan fun _ z=>?_;simp only [go_sem];apply z;refine zan fun _ z=>?_;simp only [go_sem,Nat.reduceAdd];apply z;refine zah ?_;obtain ⟨x1,h2,h⟩:=bind_some h;refine zao fun _ z=>?_;simp only [go_sem,seval];refine SC.by_ (zaH n a0 ([40]:Str) _ h2 _ _ _ P0 (by simp only [go_sem,hmP0,hg3])) ?_;simp only [go_sem,Nat.reduceAdd];apply z;refine zah ?_;refine zah ?_;obtain ⟨x3,h4,h⟩:=bind_some h;refine zao fun _ z=>?_;simp only [go_sem,seval];refine SC.by_ (zaN n x1 ([41]:Str) _ h4 _ _ _ P0 (by simp only [go_sem,↓reduceIte,hg3])) ?_;simp only [go_sem,Nat.reduceAdd];apply z;refine zbn x3.1 (fun c5=>?_) (fun c5=>?_)
 ·replace h:=zaA c5 h;refine zan fun _ z=>?_;simp only [go_sem,Nat.reduceAdd,c5];apply z;refine zau ?_
  try simp only [zat]
  obtain rfl:=zag h;refine ⟨by simp,?_⟩;refine ⟨(7::q),0,_,(by simp only [go_sem]),.exact (t:=4) (rows:=([].map zab.C)) (congrArg Array.toList Tryz.results96) (by simp only [go_sem,↓reduceIte]),(7::q),0,(by simp only [go_sem]),?_,?_⟩ <;> simp only [go_sem,zak,zaz hpP0]
 ·replace h:=zaB c5 h;refine zav ?_
  try simp only [zaa]
  refine zah ?_;obtain ⟨y6,hy6,h⟩:=bind_some h;refine zbf 8 [] [] rfl (fun E' m'=>∃(oy6_5:Pa) (jy6_5:Nat),E' 0=.ptr P0 0/\E' 5=.list (.st (.anon oy6_5 jy6_5)) (y6.1.map zab.C)/\m'.tok oy6_5 jy6_5=true/\q <:+ oy6_5/\m'.blk P0=some ((zac.C y6.2))/\m'.gl=m.gl/\m.back q m'=(m.set P0 ((zac.C y6.2)))) ?_ ?_
  ·refine zaG ?_;obtain ⟨y10,hy10,hy6⟩:=bind_some hy6;refine ziV 5 ([].map zab.C) rfl (by simp only [go_sem,seval,c5]) ?_;refine zbu [] [] rfl (fun c E' m'=>∃v8 v9 o_v8 j_v8,zcf n c v8 v9=some y10/\E' 0=.ptr P0 0/\E' 1=.fn (.func 97) [.ptr P0 0] []/\E' 5=.list (.st (.anon o_v8 j_v8)) (v8.map zab.C)/\m'.tok o_v8 j_v8=true/\q <:+ o_v8/\m'.blk P0=some ((zac.C v9))/\m'.gl=m.gl/\m.back q m'=(m.set P0 ((zac.C v9)))) n ⟨[],x3.2,(6::q),0,hy10,?_⟩ ?_
   ·simp only [go_sem,seval,zaW,zak,zaz hpP0,c5]
   rintro i7 c11 E12 m13 ⟨v8,v9,o_v8,j_v8,hy10,e14⟩ _
   rcases c11 with _ | c11
   ·exact absurd hy10 (by rw [zcf];exact fun e=>nomatch e)
   rw [zcf] at hy10;refine zah ?_;refine zan fun _ z=>?_;simp only [go_sem,seval,e14];apply z;refine zbn (v9.e_ == (0:Int)) (fun c15=>?_) (fun c15=>?_)
   ·replace hy10:=zaA c15 hy10;refine zav ?_
    try simp only [zaa]
    refine zaG ?_;refine zah ?_;obtain ⟨x16,h17,hy10⟩:=bind_some hy10;obtain ⟨f18,hy10⟩:=zaM hy10;have f19:v8.length+1<=1073741824:=by first | omega | (simp only [List.length_append,List.length_cons,List.length_nil] at f18 ⊢;omega)
    have f20:v8.length<=1073741823:=by first | omega | (simp only [List.length_append,List.length_cons,List.length_nil] at f18 ⊢;omega)
    refine zao fun _ z=>?_;simp only [go_sem,seval,c15,e14];refine SC.by_ (zix n v9 _ h17 _ _ _ P0 (by simp only [go_sem,e14,hg3])) ?_;simp only [go_sem,seval,f19,e14];apply z;refine zah ?_;obtain ⟨x21,h22,hy10⟩:=bind_some hy10;refine zao fun _ z=>?_;simp only [go_sem,seval,e14];refine SC.by_ (zaN n x16.2 ([44]:Str) _ h22 _ _ _ P0 (by simp only [go_sem,↓reduceIte,e14,hg3])) ?_;simp only [go_sem,seval];apply z;refine zbn (!x21.1) (fun c23=>?_) (fun c23=>?_)
    ·replace hy10:=zaA c23 hy10;refine zbG ?_
     try simp only [seval,zaS,zaK,zaa]
     obtain rfl:=zag hy10;obtain rfl:=zag hy6;refine ⟨by decide,(9::i7::7::q),0,?_⟩;simp only [go_sem,seval,zaW,zaz hpP0,c23,e14]
    ·replace hy10:=zaB c23 hy10;refine zav ?_
     try simp only [zaa,zaq]
     refine ⟨c11,Nat.lt_succ_self _,(v8++[x16.1]),x21.2,(9::i7::7::q),0,hy10,?_⟩;simp only [go_sem,seval,zaW,zaz hpP0,c23,e14]
   ·replace hy10:=zaB c15 hy10;refine zbG ?_
    try simp only [zaS,zaK,↓reduceIte,zaa]
    obtain rfl:=zag hy10;obtain rfl:=zag hy6;refine ⟨by decide,o_v8,j_v8,?_⟩;simp only [go_sem,seval,c15,e14]
  ·rintro E24 m25 ⟨oy6_5,jy6_5,e26⟩ _;simp only [zaa];refine zah ?_;obtain ⟨x27,h28,h⟩:=bind_some h;refine zao fun _ z=>?_;simp only [go_sem,seval,e26];refine SC.by_ (zaH n y6.2 ([41]:Str) _ h28 _ _ _ P0 (by simp only [go_sem,e26,hg3])) ?_;simp only [go_sem,Nat.reduceAdd];apply z;refine zan fun _ z=>?_;simp only [go_sem,seval,e26];apply z;refine zau ?_;obtain rfl:=zag h;refine ⟨by simp,?_⟩;refine ⟨oy6_5,jy6_5,_,(by simp only [go_sem,e26]),.mine (t:=4) (rows:=(y6.1.map zab.C)) (congrArg Array.toList Tryz.results96) (by simp only [go_sem,↓reduceIte]) (by simp only [go_sem,e26]),oy6_5,jy6_5,(by simp only [go_sem,e26]),?_,?_⟩ <;> simp only [go_sem,zaz hpP0,e26]
def zjv (f:zac->Int->Option zac):Prop:=∀a0 a1 r,f a0 a1=some r->∀(q:Pa) (m:M) (vs:List V) (P0:Pa),vs.map V.weak1=[.ptr P0 0,.lit (.int .i64 a1)]/\m.blk P0=some ((zac.C a0))->SC Tryz.prog 149 vs q m (fun v m'=>v=.tup []/\m'=(m.set P0 ((zac.C r))))
theorem zgb:zjv (zeF):=by
 rintro a0 a1 r h q m vs P0 ⟨hv,hmP0⟩;refine SC.weak ?_;rw [hv];refine SC.apart hmP0 fun hpP0=>?_;have hmsP0:=za0 hmP0
 try simp only [go_sem] at hmP0 hmsP0
 refine SC_w Tryz.func149 rfl (fun xs w=>Tryz.call149 xs w) Tryz.ntmps149 (by kernel_rfl) Tryz.results149 ?_;unfold zeF at h;refine zan fun _ z=>?_;simp only [go_sem,seval];apply z;refine zbF (decide ((64:Int)<a1)) (by simp only [go_sem,↓reduceIte]) (fun c1=>?_) (fun c1=>?_)
 ·replace h:=zaA c1 h;obtain ⟨x2,h3,h⟩:=bind_some h;refine zca fun _ z=>?_;simp only [go_sem,seval,c1];refine SC.by_ (zdi a0 (111:Int) _ h3 _ _ _ P0 (by simp only [go_sem,hmP0])) ?_;simp only [go_sem,Nat.reduceAdd];apply z;simp only [];obtain rfl:=zag h;refine ⟨by simp,?_⟩;simp only [go_sem,zak,zaz hpP0]
 ·replace h:=zaB c1 h;refine zav ?_;obtain rfl:=zag h;refine ⟨by simp,?_⟩;simp only [go_sem,zak,hmsP0,c1]
def zjq (f:zac->Int->Option Str):Prop:=∀a0 a1 r,f a0 a1=some r->∀(q:Pa) (m:M) (vs:List V) (P0:Pa),vs.map V.weak1=[.ptr P0 0,.lit (.int .i64 a1)]/\m.blk P0=some ((zac.C a0))/\m.gl 3=.eptr [(cA cS zaZ)] 0 0/\m.gl 5=.eptr [(cA (cA cS) zbq)] 0 0->SC Tryz.prog 232 vs q m (fun v m'=>v=.lit (.string (bs r))/\m'=m)
theorem zga (n:Nat):zjq (zeD n):=by
 rintro a0 a1 r h q m vs P0 ⟨hv,hmP0,hg3,hg5⟩;refine SC.weak ?_;rw [hv];refine SC.apart hmP0 fun hpP0=>?_
 try simp only [go_sem] at hmP0
 refine SC_w Tryz.func232 rfl (fun xs w=>Tryz.call232 xs w) Tryz.ntmps232 (by kernel_rfl) Tryz.results232 ?_;unfold zeD at h;refine zan fun _ z=>?_;simp only [go_sem];apply z;refine zah ?_;refine zah ?_;obtain ⟨x1,h5,h⟩:=bind_some h;obtain ⟨f2,f3,f4⟩:=zaw h5;have f6:a1<(7:Int):=f3;obtain ⟨w7,d8⟩:=zks (f:=(cA cS)) (s:=3) (cA_all (f:=(cA cS)) (s:=3) _ (by kernel_rfl)) f4;have d9:=(cA_all (f:=(cA cS)) (s:=3) _ (by kernel_rfl)) _ (List.mem_of_getElem? f4);have d10:=List.take_left' (l₂:=w7) d9;have d11:(3<=(cA cS x1).length+w7.length)=True:=eq_true (by omega);refine zao fun _ z=>?_;simp only [go_sem,seval,f2,f6,d10,d11,d8,hg5];apply z;refine zaG ?_;obtain ⟨y14,hy14,h⟩:=bind_some h;refine zbu [] [] rfl (fun c E' m'=>∃v13,zdh n x1 a0 c v13=some y14/\E' 0=.ptr P0 0/\E' 9=.agg ((cA cS x1))/\E' 10=.lit (.int .i64 v13)/\m'.blk P0=some ((zac.C a0))/\m'.gl=m.gl/\m.back q m'=m) n ⟨(0:Int),hy14,?_⟩ ?_
 ·simp only [go_sem,seval,zak,hmP0]
 rintro i12 c15 E16 m17 ⟨v13,hy14,e18⟩ _
 rcases c15 with _ | c15
 ·exact absurd hy14 (by rw [zdh];exact fun e=>nomatch e)
 rw [zdh] at hy14;refine zan fun _ z=>?_;simp only [go_sem,e18];apply z;refine zah ?_;refine zbF (decide (v13<(3:Int))) (by simp only [go_sem,↓reduceIte]) (fun c19=>?_) (fun c19=>?_)
 ·replace hy14:=zaA c19 hy14;refine zav ?_
  try simp only [zaa]
  refine zah ?_;refine zaG ?_;refine zah ?_;obtain ⟨x20,h24,hy14⟩:=bind_some hy14;obtain ⟨f21,f22,f23⟩:=zaw h24;have f25:=(List.getElem?_eq_some_iff.1 f23).1;have f26:v13<(3:Int):=by have:=cA_one d9;omega
  obtain ⟨w27,d28⟩:=zks (f:=cS) (s:=1) (fun _ _=>rfl) f23;simp only [go_sem] at d28;refine zao fun _ z=>?_;simp only [go_sem,seval,f21,f26,d28,e18];apply z;refine zah ?_;obtain ⟨y29,hy29,hy14⟩:=bind_some hy14;refine zbf 10 [] [] rfl (fun E' m'=>E' 0=.ptr P0 0/\E' 6=.lit (.string (bs x20))/\E' 9=.agg ((cA cS x1))/\E' 10=.lit (.int .i64 v13)/\E' 19=.lit (.bool y29)/\m'.blk P0=some ((zac.C a0))/\m'.gl=m.gl/\m.back q m'=m) ?_ ?_
  ·rcases za9 (decide (x20 ≠ ([]:Str))) with c30 | c30
   ·replace hy29:=zaA c30 hy29;obtain ⟨x31,h32,hy29⟩:=bind_some hy29;refine zao fun _ z=>?_;simp only [go_sem,seval,c30,e18];refine SC.by_ (zdK n a0 x20 _ h32 _ _ _ P0 (by simp only [go_sem,e18,hg3])) ?_;simp only [go_sem,seval];apply z;obtain rfl:=zag hy29;refine ⟨by decide,?_⟩;simp only [go_sem,seval,e18]
   ·replace hy29:=zaB c30 hy29;refine zao fun _ z=>?_;simp only [go_sem,seval,c30];apply z;obtain rfl:=zag hy29;refine ⟨by decide,?_⟩;simp only [go_sem,seval,e18]
  ·intro E33 m34 e35 _;simp only [zaa];refine zbF y29 (by simp only [go_sem,e35]) (fun c36=>?_) (fun c36=>?_)
   ·replace hy14:=zaA c36 hy14;refine zan fun _ z=>?_;simp only [go_sem,seval,e35];apply z;refine zau ?_
    try simp only [zat,zaC]
    obtain rfl:=zag hy14;simp only [Sum.elim_inr] at h;obtain rfl:=zag h;refine ⟨by simp,?_⟩;simp only [go_sem,↓reduceIte,e35]
   ·replace hy14:=zaB c36 hy14;refine zav ?_
    try simp only [zaa,zaq]
    refine zao fun _ z=>?_;simp only [go_sem,seval,e35];apply z;refine ⟨c15,Nat.lt_succ_self _,(IntKind.i64.wrap (v13+(1:Int))),hy14,?_⟩;simp only [go_sem,seval,e35]
 ·replace hy14:=zaB c19 hy14;refine zbG ?_
  try simp only [zaS,zaK,↓reduceIte,zaa]
  obtain rfl:=zag hy14;simp only [Sum.elim_inl] at h;refine zan fun _ z=>?_;simp only [go_sem,Nat.reduceAdd,c19];apply z;refine zau ?_;obtain rfl:=zag h;refine ⟨by simp,?_⟩;simp only [go_sem,↓reduceIte,e18]
def zda (f:zac->Int->Option ((List zab) × zac)):Prop:=∀a0 a1 r,f a0 a1=some r->∀(q:Pa) (m:M) (vs:List V) (P0:Pa) (P1:Pa) (P2:Pa),vs.map V.weak1=[.ptr P0 0,.fn (.func 242) [] [.ptr P1 0,.ptr P2 0]]/\m.blk P0=some ((zac.C a0))/\m.blk P1=some ([.ptr P0 0])/\m.blk P2=some ([.lit (.int .i64 a1)])/\(P0=P1)=False/\(P0=P2)=False/\(P1=P0)=False/\(P1=P2)=False/\(P2=P0)=False/\(P2=P1)=False/\m.gl 3=.eptr [(cA cS zaZ)] 0 0/\m.gl 5=.eptr [(cA (cA cS) zbq)] 0 0->SC Tryz.prog 96 vs q m (fun v m'=>v=.list .none (r.1.map zab.C)/\m'=(m.set P0 ((zac.C r.2))))
def zdv (f:zac->Int->Option (zab × zac)):Prop:=∀a0 a1 r,f a0 a1=some r->∀(q:Pa) (m:M) (vs:List V) (P0:Pa),vs.map V.weak1=[.ptr P0 0,.lit (.int .i64 a1)]/\m.blk P0=some ((zac.C a0))/\m.gl 3=.eptr [(cA cS zaZ)] 0 0/\m.gl 5=.eptr [(cA (cA cS) zbq)] 0 0->SC Tryz.prog 186 vs q m (fun v m'=>v=.agg ((zab.C r.1))/\m'=(m.set P0 ((zac.C r.2))))
def zdZ (f:zac->Int->Int->Option (zab × zac)):Prop:=∀a0 a1 a2 r,f a0 a1 a2=some r->∀(q:Pa) (m:M) (vs:List V) (P0:Pa),vs.map V.weak1=[.ptr P0 0,.lit (.int .i64 a1),.lit (.int .i64 a2)]/\m.blk P0=some ((zac.C a0))/\m.gl 3=.eptr [(cA cS zaZ)] 0 0/\m.gl 5=.eptr [(cA (cA cS) zbq)] 0 0->SC Tryz.prog 213 vs q m (fun v m'=>v=.agg ((zab.C r.1))/\m'=(m.set P0 ((zac.C r.2))))
def zdF (f:zac->Int->Option (zab × zac)):Prop:=∀a0 a1 r,f a0 a1=some r->∀(q:Pa) (m:M) (vs:List V) (P0:Pa),vs.map V.weak1=[.ptr P0 0,.lit (.int .i64 a1)]/\m.blk P0=some ((zac.C a0))/\m.gl 3=.eptr [(cA cS zaZ)] 0 0/\m.gl 5=.eptr [(cA (cA cS) zbq)] 0 0->SC Tryz.prog 231 vs q m (fun v m'=>v=.agg ((zab.C r.1))/\m'=(m.set P0 ((zac.C r.2))))
def zd4 (f:zac->Int->Option (zab × zac)):Prop:=∀a0 a1 r,f a0 a1=some r->∀(q:Pa) (m:M) (vs:List V) (P0:Pa) (P1:Pa) (P2:Pa),vs.map V.weak1=[.ptr P1 0,.ptr P2 0]/\m.blk P0=some ((zac.C a0))/\m.blk P1=some ([.ptr P0 0])/\m.blk P2=some ([.lit (.int .i64 a1)])/\(P0=P1)=False/\(P0=P2)=False/\(P1=P0)=False/\(P1=P2)=False/\(P2=P0)=False/\(P2=P1)=False/\m.gl 3=.eptr [(cA cS zaZ)] 0 0/\m.gl 5=.eptr [(cA (cA cS) zbq)] 0 0->SC Tryz.prog 242 vs q m (fun v m'=>v=.agg ((zab.C r.1))/\m'=(m.set P0 ((zac.C r.2))))
theorem zfG {zbC:zac->Int->Option (zab × zac)} (zgK:zd4 zbC) (n:Nat):zda (zc9 zbC n):=by
 rintro a0 a1 r h q m vs P0 P1 P2 ⟨hv,hmP0,hmP1,hmP2,hn0_1,hn0_2,hn1_0,hn1_2,hn2_0,hn2_1,hg3,hg5⟩;refine SC.weak ?_;rw [hv];refine SC.apart hmP0 fun hpP0=>?_;refine SC.apart hmP1 fun hpP1=>?_;refine SC.apart hmP2 fun hpP2=>?_;have hmsP0:=za0 hmP0
 try simp only [go_sem] at hmP0 hmsP0
 skip
 try simp only [go_sem,seval,Int.reduceToNat,UInt8.reduceToNat] at hmP2
 refine SC_w Tryz.func96 rfl (fun xs w=>Tryz.call96 xs w) Tryz.ntmps96 (by kernel_rfl) Tryz.results96 ?_;unfold zc9 at h;refine zan fun _ z=>?_;simp only [go_sem];apply z;refine zan fun _ z=>?_;simp only [go_sem,Nat.reduceAdd];apply z;refine zah ?_;obtain ⟨x1,h2,h⟩:=bind_some h;refine zao fun _ z=>?_;simp only [go_sem,seval];refine SC.by_ (zaH n a0 ([40]:Str) _ h2 _ _ _ P0 (by simp only [go_sem,hmP0,hg3])) ?_;simp only [go_sem,Nat.reduceAdd];apply z;refine zah ?_;refine zah ?_;obtain ⟨x3,h4,h⟩:=bind_some h;refine zao fun _ z=>?_;simp only [go_sem,seval];refine SC.by_ (zaN n x1 ([41]:Str) _ h4 _ _ _ P0 (by simp only [go_sem,↓reduceIte,hg3])) ?_;simp only [go_sem,Nat.reduceAdd];apply z;refine zbn x3.1 (fun c5=>?_) (fun c5=>?_)
 ·replace h:=zaA c5 h;refine zan fun _ z=>?_;simp only [go_sem,Nat.reduceAdd,c5];apply z;refine zau ?_
  try simp only [zat]
  obtain rfl:=zag h;refine ⟨by simp,?_⟩;simp only [go_sem,↓reduceIte,zak,zaz hpP0]
 ·replace h:=zaB c5 h;refine zav ?_
  try simp only [zaa]
  refine zah ?_;obtain ⟨y6,hy6,h⟩:=bind_some h;refine zbf 8 [] [] rfl (fun E' m'=>∃(oy6_5:Pa) (jy6_5:Nat),E' 0=.ptr P0 0/\E' 5=.list (.st (.anon oy6_5 jy6_5)) (y6.1.map zab.C)/\m'.tok oy6_5 jy6_5=true/\q <:+ oy6_5/\m'.blk P0=some ((zac.C y6.2))/\m'.blk P1=some ([.ptr P0 0])/\m'.blk P2=some ([.lit (.int .i64 a1)])/\m'.gl=m.gl/\m.back q m'=(m.set P0 ((zac.C y6.2)))) ?_ ?_
  ·refine zaG ?_;obtain ⟨y10,hy10,hy6⟩:=bind_some hy6;refine ziV 5 ([].map zab.C) rfl (by simp only [go_sem,seval,c5]) ?_;refine zbu [] [] rfl (fun c E' m'=>∃v8 v9 o_v8 j_v8,zbV zbC n a1 c v8 v9=some y10/\E' 0=.ptr P0 0/\E' 1=.fn (.func 242) [] [.ptr P1 0,.ptr P2 0]/\E' 5=.list (.st (.anon o_v8 j_v8)) (v8.map zab.C)/\m'.tok o_v8 j_v8=true/\q <:+ o_v8/\m'.blk P0=some ((zac.C v9))/\m'.blk P1=some ([.ptr P0 0])/\m'.blk P2=some ([.lit (.int .i64 a1)])/\m'.gl=m.gl/\m.back q m'=(m.set P0 ((zac.C v9)))) n ⟨[],x3.2,(6::q),0,hy10,?_⟩ ?_
   ·simp only [go_sem,seval,zaW,zak,zaz hpP0,hn1_0,hn2_0,c5,hmP1,hmP2]
   rintro i7 c11 E12 m13 ⟨v8,v9,o_v8,j_v8,hy10,e14⟩ _
   rcases c11 with _ | c11
   ·exact absurd hy10 (by rw [zbV];exact fun e=>nomatch e)
   rw [zbV] at hy10;refine zah ?_;refine zan fun _ z=>?_;simp only [go_sem,seval,e14];apply z;refine zbn (v9.e_ == (0:Int)) (fun c15=>?_) (fun c15=>?_)
   ·replace hy10:=zaA c15 hy10;refine zav ?_
    try simp only [zaa]
    refine zaG ?_;refine zah ?_;obtain ⟨x16,h17,hy10⟩:=bind_some hy10;obtain ⟨f18,hy10⟩:=zaM hy10;have f19:v8.length+1<=1073741824:=by first | omega | (simp only [List.length_append,List.length_cons,List.length_nil] at f18 ⊢;omega)
    have f20:v8.length<=1073741823:=by first | omega | (simp only [List.length_append,List.length_cons,List.length_nil] at f18 ⊢;omega)
    refine zao fun _ z=>?_;simp only [go_sem,seval,c15,e14];refine SC.by_ (zgK v9 a1 _ h17 _ _ _ P0 P1 P2 (by simp only [go_sem,hn0_1,hn0_2,hn1_0,hn1_2,hn2_0,hn2_1,e14,hg3,hg5])) ?_;simp only [go_sem,seval,f19,e14];apply z;refine zah ?_;obtain ⟨x21,h22,hy10⟩:=bind_some hy10;refine zao fun _ z=>?_;simp only [go_sem,seval,e14];refine SC.by_ (zaN n x16.2 ([44]:Str) _ h22 _ _ _ P0 (by simp only [go_sem,↓reduceIte,e14,hg3])) ?_;simp only [go_sem,seval];apply z;refine zbn (!x21.1) (fun c23=>?_) (fun c23=>?_)
    ·replace hy10:=zaA c23 hy10;refine zbG ?_
     try simp only [seval,zaS,zaK,zaa]
     obtain rfl:=zag hy10;obtain rfl:=zag hy6;refine ⟨by decide,(9::i7::7::q),0,?_⟩;simp only [go_sem,seval,zaW,zaz hpP0,hn1_0,hn2_0,c23,e14]
    ·replace hy10:=zaB c23 hy10;refine zav ?_
     try simp only [zaa,zaq]
     refine ⟨c11,Nat.lt_succ_self _,(v8++[x16.1]),x21.2,(9::i7::7::q),0,hy10,?_⟩;simp only [go_sem,seval,zaW,zaz hpP0,hn1_0,hn2_0,c23,e14]
   ·replace hy10:=zaB c15 hy10;refine zbG ?_
    try simp only [zaS,zaK,↓reduceIte,zaa]
    obtain rfl:=zag hy10;obtain rfl:=zag hy6;refine ⟨by decide,o_v8,j_v8,?_⟩;simp only [go_sem,seval,c15,e14]
  ·rintro E24 m25 ⟨oy6_5,jy6_5,e26⟩ _;simp only [zaa];refine zah ?_;obtain ⟨x27,h28,h⟩:=bind_some h;refine zao fun _ z=>?_;simp only [go_sem,seval,e26];refine SC.by_ (zaH n y6.2 ([41]:Str) _ h28 _ _ _ P0 (by simp only [go_sem,e26,hg3])) ?_;simp only [go_sem,Nat.reduceAdd];apply z;refine zan fun _ z=>?_;simp only [go_sem,seval,e26];apply z;refine zau ?_;obtain rfl:=zag h;refine ⟨by simp,?_⟩;simp only [go_sem,↓reduceIte,zaz hpP0,e26]
theorem zh6 {zba:zac->Int->Int->Option (zab × zac)} (zdt:zdZ zba) (n:Nat):zdv (zfe zba n):=by
 rintro a0 a1 r h q m vs P0 ⟨hv,hmP0,hg3,hg5⟩;refine SC.weak ?_;rw [hv];refine SC.apart hmP0 fun hpP0=>?_;have hmsP0:=za0 hmP0
 try simp only [go_sem] at hmP0 hmsP0
 refine SC_w Tryz.func186 rfl (fun xs w=>Tryz.call186 xs w) Tryz.ntmps186 (by kernel_rfl) Tryz.results186 ?_;unfold zfe at h;refine zan fun _ z=>?_;simp only [go_sem];apply z;refine zah ?_;obtain ⟨x2,h3,h⟩:=bind_some h;refine zao fun _ z=>?_;simp only [go_sem,seval];refine SC.by_ (zdt a0 (0:Int) a1 _ h3 _ _ _ P0 (by simp only [go_sem,↓reduceIte,pz1 hpP0,hmP0,hg3,hg5])) ?_;simp only [go_sem,seval,pz1 hpP0];apply z;refine zau ?_;obtain rfl:=zag h;refine ⟨by simp,?_⟩;simp only [go_sem,seval,zam,zak,zaz hpP0]
theorem zhD {za7:zac->Int->Option (zab × zac)} (zdW:zdF za7) {zba:zac->Int->Int->Option (zab × zac)} (zdt:zdZ zba) (n:Nat):zdZ (zeU za7 zba n):=by
 rintro a0 a1 a2 r h q m vs P0 ⟨hv,hmP0,hg3,hg5⟩;refine SC.weak ?_;rw [hv];refine SC.apart hmP0 fun hpP0=>?_;have hmsP0:=za0 hmP0
 try simp only [go_sem] at hmP0 hmsP0
 refine SC_w Tryz.func213 rfl (fun xs w=>Tryz.call213 xs w) Tryz.ntmps213 (by kernel_rfl) Tryz.results213 ?_;unfold zeU at h;refine zan fun _ z=>?_;simp only [go_sem];apply z;refine zah ?_;refine zan fun _ z=>?_;simp only [go_sem,seval];apply z;refine zbn (a1 == (7:Int)) (fun c2=>?_) (fun c2=>?_)
 ·replace h:=zaA c2 h;refine zah ?_;obtain ⟨x3,h4,h⟩:=bind_some h;refine zao fun _ z=>?_;simp only [go_sem,seval,c2];refine SC.by_ (zdW a0 a2 _ h4 _ _ _ P0 (by simp only [go_sem,↓reduceIte,pz2 hpP0,hmP0,hg3,hg5])) ?_;simp only [go_sem,seval,pz2 hpP0];apply z;refine zau ?_
  try simp only [zat]
  obtain rfl:=zag h;refine ⟨by simp,?_⟩;simp only [go_sem,seval,zam,zak,zaz hpP0]
 ·replace h:=zaB c2 h;refine zav ?_
  try simp only [zaa]
  refine zah ?_;obtain ⟨x5,h7,h⟩:=bind_some h;refine zao fun _ z=>?_;simp only [go_sem,seval,c2];refine SC.by_ (zdt a0 (IntKind.i64.wrap (a1+(1:Int))) a2 _ h7 _ _ _ P0 (by simp only [go_sem,↓reduceIte,pz2 hpP0,hmP0,hg3,hg5])) ?_;simp only [go_sem,seval];apply z;refine zah ?_;refine zah ?_;obtain ⟨x8,h9,h⟩:=bind_some h;refine zao fun _ z=>?_;simp only [go_sem,seval];refine SC.by_ (zga n x5.2 a1 _ h9 _ _ _ P0 (by simp only [go_sem,↓reduceIte,pz2 hpP0,hg3,hg5])) ?_;simp only [go_sem,seval];apply z;refine zaG ?_;obtain ⟨y14,hy14,h⟩:=bind_some h;refine zbu [] [] rfl (fun c E' m'=>∃v11 v12 v13,zcU zba n a1 a2 c v11 v12 v13=some y14/\E' 0=.ptr P0 0/\E' 1=.lit (.int .i64 a1)/\E' 2=.lit (.int .i64 a2)/\E' 6=.ptr (0::q) 0/\E' 7=.ptr (8::q) 0/\E' 8=.lit (.string (bs v11))/\m'.blk P0=some ((zac.C v12))/\m'.blk (0::q)=some ([.lit (.int .i64 (0:Int)),.lit (.int .i64 (0:Int)),.lit (.string (bs [])),.lit (.int .u32 (0:Int)),.list .self ([].map zab.C)])/\m'.blk (8::q)=some ((zab.C v13))/\m'.gl=m.gl/\m.back q m'=(m.set P0 ((zac.C v12)))) n ⟨x8,x5.2,x5.1,hy14,?_⟩ ?_
  ·simp only [go_sem,seval,zam,zak,zaz hpP0,pz2 hpP0]
  rintro i10 c15 E16 m17 ⟨v11,v12,v13,hy14,e18⟩ _
  rcases c15 with _ | c15
  ·exact absurd hy14 (by rw [zcU];exact fun e=>nomatch e)
  rw [zcU] at hy14;refine zah ?_;refine zan fun _ z=>?_;simp only [go_sem,seval,e18];apply z;refine zbF (decide (v11 ≠ ([]:Str))) (by simp only [go_sem,↓reduceIte]) (fun c19=>?_) (fun c19=>?_)
  ·replace hy14:=zaA c19 hy14;refine zav ?_
   try simp only [zaa]
   refine zah ?_;refine zaG ?_;refine zah ?_;obtain ⟨x20,h22,hy14⟩:=bind_some hy14;refine zao fun _ z=>?_;simp only [go_sem,seval,c19,e18];refine SC.mono (zb2 v12 (19:Int) _ h22 _ _ _ P0 (by simp only [go_sem,e18])) ?_;rintro _ _ ⟨o_x20,j_x20,s_x20,rfl,rfl⟩;replace s_x20:q <:+ o_x20:=List.IsSuffix.trans (by simp only [go_sem]) s_x20;simp only [go_sem,seval];apply z;refine zah ?_;obtain ⟨x23,h24,hy14⟩:=bind_some hy14;refine zao fun _ z=>?_;simp only [go_sem,seval,e18];refine SC.by_ (zaH n x20.2 v11 _ h24 _ _ _ P0 (by simp only [go_sem,↓reduceIte,pz2 hpP0,e18,hg3])) ?_;simp only [go_sem,Nat.reduceAdd];apply z;refine zah ?_;obtain ⟨x25,h26,hy14⟩:=bind_some hy14;refine zaO (tbl:=[0,0,0,0,8,0,60,126,1,381,1023,2047]) (ord:=[(2,0),(3,0),(4,0),(5,0),(6,0),(0,0),(8,0),(9,0),(1,2),(7,0),(10,0),(11,0)]) 21 rfl (by kernel_rfl) (by kernel_rfl) fun _ z=>?_;simp only [go_sem,seval,e18];refine zaT (zdt x23 (IntKind.i64.wrap (a1+(1:Int))) a2 _ h26 _ _ _ P0 (by simp only [go_sem,↓reduceIte,e18,hg3,hg5])) rfl ?_;simp only [go_sem,seval,pz2 hpP0,e18];apply z;simp only [zaa];refine zan fun _ z=>?_;simp only [go_sem,seval,pz2 hpP0,e18];apply z;refine zan fun _ z=>?_;simp only [go_sem,seval,e18];apply z;refine zbn (a1 == (3:Int)) (fun c27=>?_) (fun c27=>?_)
   ·replace hy14:=zaA c27 hy14;refine zbG ?_
    try simp only [seval,zaS,zaK,zaa]
    obtain rfl:=zag hy14;refine zan fun _ z=>?_;simp only [go_sem,seval,pz2 hpP0,c27,e18];apply z;refine zau ?_;obtain rfl:=zag h;refine ⟨by simp,?_⟩;simp only [go_sem,seval,zam,zaY,zaW,zaz hpP0,s_x20,e18]
   ·replace hy14:=zaB c27 hy14;refine zav ?_
    try simp only [zaa,zaq]
    obtain ⟨x28,h29,hy14⟩:=bind_some hy14;refine zao fun _ z=>?_;simp only [go_sem,seval,c27,e18];refine SC.by_ (zga n x25.2 a1 _ h29 _ _ _ P0 (by simp only [go_sem,↓reduceIte,pz2 hpP0,e18,hg3,hg5])) ?_;simp only [go_sem,seval];apply z;refine ⟨c15,Nat.lt_succ_self _,x28,x25.2,({ x20.1 with zbr:=v11,zax:=[v13,x25.1] }:zab),hy14,?_⟩;simp only [go_sem,seval,zam,zaY,zaW,zaz hpP0,pz2 hpP0,s_x20,e18]
  ·replace hy14:=zaB c19 hy14;refine zbG ?_
   try simp only [zaS,zaK,↓reduceIte,zaa]
   obtain rfl:=zag hy14;refine zan fun _ z=>?_;simp only [go_sem,seval,c19,e18];apply z;refine zau ?_;obtain rfl:=zag h;refine ⟨by simp,?_⟩;simp only [go_sem,seval,zam,e18]
theorem zg2 {zbE:zac->Int->Option (zab × zac)} (zdG:zdv zbE) {za7:zac->Int->Option (zab × zac)} (zdW:zdF za7) {zcg:zac->Int->Option ((List zab) × zac)} (zfL:zda zcg) (n:Nat):zdF (zep zbE za7 zcg n):=by
 rintro a0 a1 r h q m vs P0 ⟨hv,hmP0,hg3,hg5⟩;refine SC.weak ?_;rw [hv];refine SC.apart hmP0 fun hpP0=>?_;have hmsP0:=za0 hmP0
 try simp only [go_sem] at hmP0 hmsP0
 refine SC_w Tryz.func231 rfl (fun xs w=>Tryz.call231 xs w) Tryz.ntmps231 (by kernel_rfl) Tryz.results231 ?_;unfold zep at h;refine zan fun _ z=>?_;simp only [go_sem,seval];apply z;refine zah ?_;obtain ⟨x4,h5,h⟩:=bind_some h;refine zao fun _ z=>?_;simp only [go_sem,seval];refine SC.by_ (zgb a0 a1 _ h5 _ _ _ P0 (by simp only [go_sem,↓reduceIte,pz2 hpP0,hmP0])) ?_;simp only [go_sem,Nat.reduceAdd];apply z;refine zah ?_;refine zah ?_;obtain ⟨x6,h7,h⟩:=bind_some h;refine zao fun _ z=>?_;simp only [go_sem,seval,pz2 hpP0];refine SC.by_ (zaN n x4 ([40]:Str) _ h7 _ _ _ P0 (by simp only [go_sem,↓reduceIte,hg3])) ?_;simp only [go_sem,Nat.reduceAdd];apply z;refine zbn x6.1 (fun c8=>?_) (fun c8=>?_)
 ·replace h:=zaA c8 h;refine zah ?_;obtain ⟨x9,h11,h⟩:=bind_some h;refine zao fun _ z=>?_;simp only [go_sem,seval,pz2 hpP0,c8];refine SC.by_ (zdG x6.2 (IntKind.i64.wrap (a1+(1:Int))) _ h11 _ _ _ P0 (by simp only [go_sem,↓reduceIte,hg3,hg5])) ?_;simp only [go_sem,seval];apply z;refine zah ?_;obtain ⟨x12,h13,h⟩:=bind_some h;refine zao fun _ z=>?_;simp only [go_sem,seval,pz2 hpP0];refine SC.by_ (zaH n x9.2 ([41]:Str) _ h13 _ _ _ P0 (by simp only [go_sem,↓reduceIte,pz2 hpP0,hg3])) ?_;simp only [go_sem,Nat.reduceAdd];apply z;refine zan fun _ z=>?_;simp only [go_sem,seval,pz2 hpP0];apply z;refine zau ?_
  try simp only [zat]
  obtain rfl:=zag h;refine ⟨by simp,?_⟩;simp only [go_sem,seval,zam,zak,zaz hpP0]
 ·replace h:=zaB c8 h;refine zav ?_
  try simp only [zaa]
  refine zah ?_;obtain ⟨x14,h16,h⟩:=bind_some h;refine zao fun _ z=>?_;simp only [go_sem,seval,pz2 hpP0,c8];refine SC.mono (zb2 x6.2 (15:Int) _ h16 _ _ _ P0 (by simp only [go_sem,↓reduceIte])) ?_;rintro _ _ ⟨o_x14,j_x14,s_x14,rfl,rfl⟩;replace s_x14:q <:+ o_x14:=List.IsSuffix.trans (by simp only [go_sem]) s_x14;simp only [go_sem,seval];apply z;refine zah ?_;refine zan fun _ z=>?_;simp only [go_sem,seval];apply z;refine zaG ?_;obtain ⟨y22,hy22,h⟩:=bind_some h;refine zbu [] [] rfl (fun c E' m'=>∃v18 v19 v20 v21,zcD za7 n a1 c v18 v19 v20 v21=some y22/\E' 2=.ptr (0::q) 0/\E' 3=.ptr (1::q) 0/\E' 4=.ptr (2::q) 0/\E' 6=.ptr (10::q) 0/\E' 23=.agg ((cA cS zfB))/\E' 24=.lit (.int .i64 v18)/\m'.blk P0=some ((zac.C v19))/\m'.blk (10::q)=some ([.lit (.int .i64 v20.zbA),.lit (.int .i64 v20.At_),.lit (.string (bs v20.zbr)),.lit (.int .u32 v20.Num_),.list .self (v20.zax.map zab.C)])/\m'.blk (0::q)=some ([.ptr P0 0])/\m'.blk (1::q)=some ([.lit (.int .i64 a1)])/\m'.blk (2::q)=some ([.lit (.int .i64 v21.zbA),.lit (.int .i64 v21.At_),.lit (.string (bs v21.zbr)),.lit (.int .u32 v21.Num_),.list .self (v21.zax.map zab.C)])/\m'.gl=m.gl/\m.back q m'=(m.set P0 ((zac.C v19)))) n ⟨(0:Int),x14.2,x14.1,(zab.mk (0:Int) (0:Int) [] (0:Int) []),hy22,?_⟩ ?_
  ·(simp only [go_sem,seval,zam,zaY,zaW,zak,zaz hpP0,pz2 hpP0,s_x14]) <;> (try and_intros) <;> rfl
  rintro i17 c23 E24 m25 ⟨v18,v19,v20,v21,hy22,e26⟩ _
  rcases c23 with _ | c23
  ·exact absurd hy22 (by rw [zcD];exact fun e=>nomatch e)
  rw [zcD] at hy22;refine zan fun _ z=>?_;simp only [go_sem,e26];apply z;refine zah ?_;refine zbF (decide (v18<(2:Int))) (by simp only [go_sem,↓reduceIte]) (fun c27=>?_) (fun c27=>?_)
  ·replace hy22:=zaA c27 hy22;refine zav ?_
   try simp only [zaa]
   refine zah ?_;refine zaG ?_;refine zah ?_;obtain ⟨x28,h32,hy22⟩:=bind_some hy22;obtain ⟨f29,f30,f31⟩:=zaw h32;have f33:v18<(2:Int):=f30;obtain ⟨w34,d35⟩:=zks (f:=cS) (s:=1) (fun _ _=>rfl) f31;simp only [go_sem] at d35;have d36:List.drop (v18.toNat) [V.lit (.string (bs ([126]:Str))),V.lit (.string (bs ([45]:Str)))]=_:=d35;refine zao fun _ z=>?_;simp only [go_sem,seval,f29,f33,d35,e26];apply z;refine zah ?_;obtain ⟨x37,h38,hy22⟩:=bind_some hy22;refine zao fun _ z=>?_;simp only [go_sem,seval,e26];refine SC.by_ (zaN n v19 x28 _ h38 _ _ _ P0 (by simp only [go_sem,e26,hg3])) ?_;simp only [go_sem,Nat.reduceAdd];apply z;refine zbn x37.1 (fun c39=>?_) (fun c39=>?_)
   ·replace hy22:=zaA c39 hy22;refine zah ?_;obtain ⟨x40,h41,hy22⟩:=bind_some hy22;refine zao fun _ z=>?_;simp only [go_sem,seval,pz2 hpP0,c39,e26];refine SC.by_ (zdW x37.2 (IntKind.i64.wrap (a1+(1:Int))) _ h41 _ _ _ P0 (by simp only [go_sem,↓reduceIte,e26,hg3,hg5])) ?_;simp only [go_sem,seval,pz2 hpP0,e26];apply z;refine zan fun _ z=>?_;simp only [go_sem,seval,pz2 hpP0,e26];apply z;refine zau ?_
    try simp only [zat,zaC]
    obtain rfl:=zag hy22;simp only [Sum.elim_inr] at h;obtain rfl:=zag h;refine ⟨by simp,?_⟩;simp only [go_sem,seval,zam,zaY,zaz hpP0,e26]
   ·replace hy22:=zaB c39 hy22;refine zav ?_
    try simp only [zaa,zaq]
    refine zao fun _ z=>?_;simp only [go_sem,seval,c39,e26];apply z;refine ⟨c23,Nat.lt_succ_self _,(IntKind.i64.wrap (v18+(1:Int))),x37.2,v20,v21,hy22,?_⟩
    (simp only [go_sem,seval,zaz hpP0,pz2 hpP0,e26]) <;> (try and_intros) <;> rfl
  ·replace hy22:=zaB c27 hy22;refine zbG ?_
   try simp only [zaS,zaK,↓reduceIte,zaa]
   obtain rfl:=zag hy22;simp only [Sum.elim_inl] at h;refine zah ?_;refine zah ?_;obtain ⟨y42,hy42,h⟩:=bind_some h;refine zbf 26 [] [] rfl (fun E' m'=>E' 2=.ptr (0::q) 0/\E' 3=.ptr (1::q) 0/\E' 4=.ptr (2::q) 0/\E' 6=.ptr (10::q) 0/\E' 51=.lit (.bool y42)/\m'.blk P0=some ((zac.C v19))/\m'.blk (10::q)=some ([.lit (.int .i64 v20.zbA),.lit (.int .i64 v20.At_),.lit (.string (bs v20.zbr)),.lit (.int .u32 v20.Num_),.list .self (v20.zax.map zab.C)])/\m'.blk (0::q)=some ([.ptr P0 0])/\m'.blk (1::q)=some ([.lit (.int .i64 a1)])/\m'.blk (2::q)=some ([.lit (.int .i64 v21.zbA),.lit (.int .i64 v21.At_),.lit (.string (bs v21.zbr)),.lit (.int .u32 v21.Num_),.list .self (v21.zax.map zab.C)])/\m'.gl=m.gl/\m.back q m'=(m.set P0 ((zac.C v19)))) ?_ ?_
   ·rcases za9 (v19.e_ == (0:Int)) with c43 | c43
    ·replace hy42:=zaA c43 hy42;obtain ⟨x44,h45,hy42⟩:=bind_some hy42;refine zao fun _ z=>?_;simp only [go_sem,seval,c27,c43,e26];refine SC.by_ (zbU v19 _ h45 _ _ _ P0 (by simp only [go_sem,e26])) ?_;simp only [go_sem,seval];apply z;obtain rfl:=zag hy42;refine ⟨by decide,?_⟩
     (simp only [go_sem,seval,e26]) <;> (try and_intros) <;> rfl
    ·replace hy42:=zaB c43 hy42;refine zao fun _ z=>?_;simp only [go_sem,seval,c27,c43,e26];apply z;obtain rfl:=zag hy42;refine ⟨by decide,?_⟩
     (simp only [go_sem,seval,e26]) <;> (try and_intros) <;> rfl
   ·intro E46 m47 e48 _;simp only [zaa];refine zbF y42 (by simp only [go_sem,e48]) (fun c49=>?_) (fun c49=>?_)
    ·replace h:=zaA c49 h;refine zah ?_;obtain ⟨x50,h51,h⟩:=bind_some h;refine zao fun _ z=>?_;simp only [go_sem,seval,e48];refine SC.by_ (zfM v19 _ h51 _ _ _ P0 (by simp only [go_sem,e48])) ?_;simp only [go_sem,seval,pz2 hpP0,e48];apply z;refine zan fun _ z=>?_;simp only [go_sem,seval,pz2 hpP0,e48];apply z;refine zau ?_
     try simp only [zat]
     obtain rfl:=zag h;refine ⟨by simp,?_⟩;simp only [go_sem,seval,zam,zaz hpP0,e48]
    ·replace h:=zaB c49 h;refine zav ?_
     try simp only [zaa]
     refine zah ?_;obtain ⟨x52,h53,h⟩:=bind_some h;refine zao fun _ z=>?_;simp only [go_sem,seval,e48];refine SC.by_ (zb3 n v19 _ h53 _ _ _ P0 (by simp only [go_sem,e48,hg3])) ?_;simp only [go_sem,seval,pz2 hpP0,e48];apply z;refine zah ?_;obtain ⟨y54,hy54,h⟩:=bind_some h;refine zbf 47 [] [((10::q),4)] rfl (fun E' m'=>E' 4=.ptr (2::q) 0/\E' 6=.ptr (10::q) 0/\m'.blk P0=some ((zac.C y54.1))/\m'.blk (10::q)=some ((zab.C y54.2))/\m'.blk (2::q)=some ([.lit (.int .i64 v21.zbA),.lit (.int .i64 v21.At_),.lit (.string (bs v21.zbr)),.lit (.int .u32 v21.Num_),.list .self (v21.zax.map zab.C)])/\m'.gl=m.gl/\m.back q m'=(m.set P0 ((zac.C y54.1)))) ?_ ?_
     ·refine zaG ?_;refine zah ?_;obtain ⟨x55,h56,hy54⟩:=bind_some hy54;refine zao fun _ z=>?_;simp only [go_sem,seval,pz2 hpP0,e48];refine SC.by_ (zdK n x52.2 ([40]:Str) _ h56 _ _ _ P0 (by simp only [go_sem,↓reduceIte,pz2 hpP0,e48,hg3])) ?_;simp only [go_sem,seval];apply z;refine zbn x55 (fun c57=>?_) (fun c57=>?_)
      ·replace hy54:=zaA c57 hy54;obtain ⟨x58,h59,hy54⟩:=bind_some hy54;refine zca fun _ z=>?_;simp only [go_sem,seval,pz2 hpP0,c57,e48];refine SC.by_ (zfL x52.2 a1 _ h59 _ _ _ P0 (0::q) (1::q) (by simp only [go_sem,seval,pz2 hpP0,e48,hg3,hg5])) ?_;simp only [go_sem,seval,pz2 hpP0,e48];apply z;simp only [zaa,zaq];obtain rfl:=zag hy54;refine ⟨by decide,?_⟩
       (simp only [go_sem,seval,zam,zaz hpP0,pz2 hpP0,e48]) <;> (try and_intros) <;> rfl
      ·replace hy54:=zaB c57 hy54;refine zah ?_;obtain ⟨x60,h61,hy54⟩:=bind_some hy54;refine zao fun _ z=>?_;simp only [go_sem,seval,pz2 hpP0,c57,e48];refine SC.by_ (zaN n x52.2 ([91]:Str) _ h61 _ _ _ P0 (by simp only [go_sem,↓reduceIte,pz2 hpP0,e48,hg3])) ?_;simp only [go_sem,seval];apply z;refine zbn x60.1 (fun c62=>?_) (fun c62=>?_)
       ·replace hy54:=zaA c62 hy54;refine zah ?_;obtain ⟨x63,h64,hy54⟩:=bind_some hy54;refine zao fun _ z=>?_;simp only [go_sem,seval,pz2 hpP0,c62,e48];refine SC.by_ (zdG x60.2 (IntKind.i64.wrap (a1+(1:Int))) _ h64 _ _ _ P0 (by simp only [go_sem,↓reduceIte,e48,hg3,hg5])) ?_;simp only [go_sem,seval,pz2 hpP0,e48];apply z;obtain ⟨x65,h66,hy54⟩:=bind_some hy54;refine zca fun _ z=>?_;simp only [go_sem,seval,pz2 hpP0,e48];refine SC.by_ (zaH n x63.2 ([93]:Str) _ h66 _ _ _ P0 (by simp only [go_sem,↓reduceIte,pz2 hpP0,e48,hg3])) ?_;simp only [go_sem,Nat.reduceAdd];apply z;simp only [zaa,zaq];obtain rfl:=zag hy54;refine ⟨by decide,?_⟩
        (simp only [go_sem,seval,zam,zaY,zaz hpP0,pz2 hpP0,e48]) <;> (try and_intros) <;> rfl
       ·replace hy54:=zaB c62 hy54;refine zav ?_
        try simp only [zaa,zaq]
        obtain rfl:=zag hy54;refine ⟨by decide,?_⟩
        (simp only [go_sem,seval,zam,zaz hpP0,pz2 hpP0,c62,e48]) <;> (try and_intros) <;> rfl
     ·intro E67 m68 e69 _;simp only [zaa];refine zan fun _ z=>?_;simp only [go_sem,seval,e69];apply z;refine zau ?_;obtain rfl:=zag h;refine ⟨by simp,?_⟩;simp only [go_sem,seval,zam,e69]
theorem zgI {zbE:zac->Int->Option (zab × zac)} (zdG:zdv zbE) (n:Nat):zd4 (zd3 zbE n):=by
 rintro a0 a1 r h q m vs P0 P1 P2 ⟨hv,hmP0,hmP1,hmP2,hn0_1,hn0_2,hn1_0,hn1_2,hn2_0,hn2_1,hg3,hg5⟩;refine SC.weak ?_;rw [hv];refine SC.apart hmP0 fun hpP0=>?_;refine SC.apart hmP1 fun hpP1=>?_;refine SC.apart hmP2 fun hpP2=>?_;have hmsP0:=za0 hmP0
 try simp only [go_sem] at hmP0 hmsP0
 skip
 try simp only [go_sem,seval,Int.reduceToNat,UInt8.reduceToNat] at hmP2
 refine SC_w Tryz.func242 rfl (fun xs w=>Tryz.call242 xs w) Tryz.ntmps242 (by kernel_rfl) Tryz.results242 ?_;unfold zd3 at h;refine zan fun _ z=>?_;simp only [go_sem];apply z;refine zah ?_;obtain ⟨x2,h3,h⟩:=bind_some h;refine zao fun _ z=>?_;simp only [go_sem,seval,pz1 hpP1,pz1 hpP2,hmP1,hmP2];refine SC.by_ (zdG a0 (IntKind.i64.wrap (a1+(1:Int))) _ h3 _ _ _ P0 (by simp only [go_sem,↓reduceIte,pz1 hpP0,hmP0,hg3,hg5])) ?_;simp only [go_sem,seval,pz1 hpP0];apply z;refine zau ?_;obtain rfl:=zag h;refine ⟨by simp,?_⟩;simp only [go_sem,seval,zam,zak,zaz hpP0]
theorem zdJ:∀n,zda (zgs n)/\zdv (zbM n)/\zdZ (zjT n)/\zdF (zi2 n)/\zd4 (zh4 n)
 | 0=>⟨fun _ _ _ h=>zbP h,fun _ _ _ h=>zbP h,fun _ _ _ _ h=>zbP h,fun _ _ _ h=>zbP h,fun _ _ _ h=>zbP h⟩
 | n+1=>
   have ih:=zdJ n
   ⟨zfG ih.2.2.2.2 n,zh6 ih.2.2.1 n,zhD ih.2.2.2.1 ih.2.2.1 n,zg2 ih.2.1 ih.2.2.2.1 ih.1 n,zgI ih.2.1 n⟩
theorem zbN (n:Nat):zdv (zbM n):=(zdJ n).2.1
def zi3 (f:zac->zab->Int->Option (zab × zac)):Prop:=∀a0 a1 a2 r,f a0 a1 a2=some r->∀(q:Pa) (m:M) (vs:List V) (P0:Pa),vs.map V.weak1=[.ptr P0 0,.agg ((zab.C a1)),.lit (.int .i64 a2)]/\m.blk P0=some ((zac.C a0))/\m.gl 3=.eptr [(cA cS zaZ)] 0 0/\m.gl 5=.eptr [(cA (cA cS) zbq)] 0 0->SC Tryz.prog 185 vs q m (fun v m'=>v=.agg ((zab.C r.1))/\m'=(m.set P0 ((zac.C r.2))))
theorem zfV (n:Nat):zi3 (zej n):=by
 rintro a0 a1 a2 r h q m vs P0 ⟨hv,hmP0,hg3,hg5⟩;refine SC.weak ?_;rw [hv];refine SC.apart hmP0 fun hpP0=>?_;have hmsP0:=za0 hmP0
 try simp only [go_sem] at hmP0 hmsP0
 refine SC_w Tryz.func185 rfl (fun xs w=>Tryz.call185 xs w) Tryz.ntmps185 (by kernel_rfl) Tryz.results185 ?_;unfold zej at h;refine zan fun _ z=>?_;simp only [go_sem,Nat.reduceAdd];apply z;refine zah ?_;obtain ⟨x3,h4,h⟩:=bind_some h;refine zao fun _ z=>?_;simp only [go_sem,seval];refine SC.by_ (zb3 n a0 _ h4 _ _ _ P0 (by simp only [go_sem,↓reduceIte,pz1 hpP0,hmP0,hg3])) ?_;simp only [go_sem,seval,pz1 hpP0];apply z;refine zah ?_;obtain ⟨x5,h6,h⟩:=bind_some h;refine zao fun _ z=>?_;simp only [go_sem,seval];refine SC.by_ (zaH n x3.2 ([61]:Str) _ h6 _ _ _ P0 (by simp only [go_sem,↓reduceIte,pz1 hpP0,hg3])) ?_;simp only [go_sem,Nat.reduceAdd];apply z;refine zah ?_;obtain ⟨x7,h8,h⟩:=bind_some h;refine zao fun _ z=>?_;simp only [go_sem,seval];refine SC.by_ (zbN n x5 a2 _ h8 _ _ _ P0 (by simp only [go_sem,↓reduceIte,hg3,hg5])) ?_;simp only [go_sem,seval,pz1 hpP0];apply z;refine zah ?_;obtain ⟨x9,h10,h⟩:=bind_some h;refine zao fun _ z=>?_;simp only [go_sem,seval];refine SC.by_ (zaH n x7.2 ([59]:Str) _ h10 _ _ _ P0 (by simp only [go_sem,↓reduceIte,pz1 hpP0,hg3])) ?_;simp only [go_sem,Nat.reduceAdd];apply z;refine zan fun _ z=>?_;simp only [go_sem,seval,pz1 hpP0];apply z;refine zau ?_;obtain rfl:=zag h;refine ⟨by simp,?_⟩;simp only [go_sem,seval,zam,zaY,zak,zaz hpP0]
def zh3 (f:zac->Int->Option (zab × zac)):Prop:=∀a0 a1 r,f a0 a1=some r->∀(q:Pa) (m:M) (vs:List V) (P0:Pa) (P1:Pa) (P2:Pa),vs.map V.weak1=[.ptr P1 0,.ptr P2 0]/\m.blk P0=some ((zac.C a0))/\m.blk P1=some ([.ptr P0 0])/\m.blk P2=some ([.lit (.int .i64 a1)])/\(P0=P1)=False/\(P0=P2)=False/\(P1=P0)=False/\(P1=P2)=False/\(P2=P0)=False/\(P2=P1)=False/\m.gl 3=.eptr [(cA cS zaZ)] 0 0/\m.gl 5=.eptr [(cA (cA cS) zbq)] 0 0->SC Tryz.prog 214 vs q m (fun v m'=>v=.agg ((zab.C r.1))/\m'=(m.set P0 ((zac.C r.2))))
theorem zhC (n:Nat):zh3 (zeT n):=by
 rintro a0 a1 r h q m vs P0 P1 P2 ⟨hv,hmP0,hmP1,hmP2,hn0_1,hn0_2,hn1_0,hn1_2,hn2_0,hn2_1,hg3,hg5⟩;refine SC.weak ?_;rw [hv];refine SC.apart hmP0 fun hpP0=>?_;refine SC.apart hmP1 fun hpP1=>?_;refine SC.apart hmP2 fun hpP2=>?_;have hmsP0:=za0 hmP0
 try simp only [go_sem] at hmP0 hmsP0
 skip
 try simp only [go_sem,seval,Int.reduceToNat,UInt8.reduceToNat] at hmP2
 refine SC_w Tryz.func214 rfl (fun xs w=>Tryz.call214 xs w) Tryz.ntmps214 (by kernel_rfl) Tryz.results214 ?_;unfold zeT at h;refine zan fun _ z=>?_;simp only [go_sem];apply z;refine zah ?_;obtain ⟨x2,h3,h⟩:=bind_some h;refine zao fun _ z=>?_;simp only [go_sem,seval,pz1 hpP1,pz1 hpP2,hmP1,hmP2];refine SC.by_ (zbN n a0 (IntKind.i64.wrap (a1+(2:Int))) _ h3 _ _ _ P0 (by simp only [go_sem,↓reduceIte,pz1 hpP0,hmP0,hg3,hg5])) ?_;simp only [go_sem,seval,pz1 hpP0];apply z;refine zau ?_;obtain rfl:=zag h;refine ⟨by simp,?_⟩;simp only [go_sem,seval,zam,zak,zaz hpP0]
def zgr (f:zac->Int->Option ((List zab) × zac)):Prop:=∀a0 a1 r,f a0 a1=some r->∀(q:Pa) (m:M) (vs:List V) (P0:Pa) (P1:Pa) (P2:Pa),vs.map V.weak1=[.ptr P0 0,.fn (.func 214) [] [.ptr P1 0,.ptr P2 0]]/\m.blk P0=some ((zac.C a0))/\m.blk P1=some ([.ptr P0 0])/\m.blk P2=some ([.lit (.int .i64 a1)])/\(P0=P1)=False/\(P0=P2)=False/\(P1=P0)=False/\(P1=P2)=False/\(P2=P0)=False/\(P2=P1)=False/\m.gl 3=.eptr [(cA cS zaZ)] 0 0/\m.gl 5=.eptr [(cA (cA cS) zbq)] 0 0->SC Tryz.prog 96 vs q m (fun v m'=>v=.list .none (r.1.map zab.C)/\m'=(m.set P0 ((zac.C r.2))))
theorem zgg (n:Nat):zgr (zdP n):=by
 rintro a0 a1 r h q m vs P0 P1 P2 ⟨hv,hmP0,hmP1,hmP2,hn0_1,hn0_2,hn1_0,hn1_2,hn2_0,hn2_1,hg3,hg5⟩;refine SC.weak ?_;rw [hv];refine SC.apart hmP0 fun hpP0=>?_;refine SC.apart hmP1 fun hpP1=>?_;refine SC.apart hmP2 fun hpP2=>?_;have hmsP0:=za0 hmP0
 try simp only [go_sem] at hmP0 hmsP0
 skip
 try simp only [go_sem,seval,Int.reduceToNat,UInt8.reduceToNat] at hmP2
 refine SC_w Tryz.func96 rfl (fun xs w=>Tryz.call96 xs w) Tryz.ntmps96 (by kernel_rfl) Tryz.results96 ?_;unfold zdP at h;refine zan fun _ z=>?_;simp only [go_sem];apply z;refine zan fun _ z=>?_;simp only [go_sem,Nat.reduceAdd];apply z;refine zah ?_;obtain ⟨x1,h2,h⟩:=bind_some h;refine zao fun _ z=>?_;simp only [go_sem,seval];refine SC.by_ (zaH n a0 ([40]:Str) _ h2 _ _ _ P0 (by simp only [go_sem,hmP0,hg3])) ?_;simp only [go_sem,Nat.reduceAdd];apply z;refine zah ?_;refine zah ?_;obtain ⟨x3,h4,h⟩:=bind_some h;refine zao fun _ z=>?_;simp only [go_sem,seval];refine SC.by_ (zaN n x1 ([41]:Str) _ h4 _ _ _ P0 (by simp only [go_sem,↓reduceIte,hg3])) ?_;simp only [go_sem,Nat.reduceAdd];apply z;refine zbn x3.1 (fun c5=>?_) (fun c5=>?_)
 ·replace h:=zaA c5 h;refine zan fun _ z=>?_;simp only [go_sem,Nat.reduceAdd,c5];apply z;refine zau ?_
  try simp only [zat]
  obtain rfl:=zag h;refine ⟨by simp,?_⟩;simp only [go_sem,↓reduceIte,zak,zaz hpP0]
 ·replace h:=zaB c5 h;refine zav ?_
  try simp only [zaa]
  refine zah ?_;obtain ⟨y6,hy6,h⟩:=bind_some h;refine zbf 8 [] [] rfl (fun E' m'=>∃(oy6_5:Pa) (jy6_5:Nat),E' 0=.ptr P0 0/\E' 5=.list (.st (.anon oy6_5 jy6_5)) (y6.1.map zab.C)/\m'.tok oy6_5 jy6_5=true/\q <:+ oy6_5/\m'.blk P0=some ((zac.C y6.2))/\m'.blk P1=some ([.ptr P0 0])/\m'.blk P2=some ([.lit (.int .i64 a1)])/\m'.gl=m.gl/\m.back q m'=(m.set P0 ((zac.C y6.2)))) ?_ ?_
  ·refine zaG ?_;obtain ⟨y10,hy10,hy6⟩:=bind_some hy6;refine ziV 5 ([].map zab.C) rfl (by simp only [go_sem,seval,c5]) ?_;refine zbu [] [] rfl (fun c E' m'=>∃v8 v9 o_v8 j_v8,zb7 n a1 c v8 v9=some y10/\E' 0=.ptr P0 0/\E' 1=.fn (.func 214) [] [.ptr P1 0,.ptr P2 0]/\E' 5=.list (.st (.anon o_v8 j_v8)) (v8.map zab.C)/\m'.tok o_v8 j_v8=true/\q <:+ o_v8/\m'.blk P0=some ((zac.C v9))/\m'.blk P1=some ([.ptr P0 0])/\m'.blk P2=some ([.lit (.int .i64 a1)])/\m'.gl=m.gl/\m.back q m'=(m.set P0 ((zac.C v9)))) n ⟨[],x3.2,(6::q),0,hy10,?_⟩ ?_
   ·simp only [go_sem,seval,zaW,zak,zaz hpP0,hn1_0,hn2_0,c5,hmP1,hmP2]
   rintro i7 c11 E12 m13 ⟨v8,v9,o_v8,j_v8,hy10,e14⟩ _
   rcases c11 with _ | c11
   ·exact absurd hy10 (by rw [zb7];exact fun e=>nomatch e)
   rw [zb7] at hy10;refine zah ?_;refine zan fun _ z=>?_;simp only [go_sem,seval,e14];apply z;refine zbn (v9.e_ == (0:Int)) (fun c15=>?_) (fun c15=>?_)
   ·replace hy10:=zaA c15 hy10;refine zav ?_
    try simp only [zaa]
    refine zaG ?_;refine zah ?_;obtain ⟨x16,h17,hy10⟩:=bind_some hy10;obtain ⟨f18,hy10⟩:=zaM hy10;have f19:v8.length+1<=1073741824:=by first | omega | (simp only [List.length_append,List.length_cons,List.length_nil] at f18 ⊢;omega)
    have f20:v8.length<=1073741823:=by first | omega | (simp only [List.length_append,List.length_cons,List.length_nil] at f18 ⊢;omega)
    refine zao fun _ z=>?_;simp only [go_sem,seval,c15,e14];refine SC.by_ (zhC n v9 a1 _ h17 _ _ _ P0 P1 P2 (by simp only [go_sem,hn0_1,hn0_2,hn1_0,hn1_2,hn2_0,hn2_1,e14,hg3,hg5])) ?_;simp only [go_sem,seval,f19,e14];apply z;refine zah ?_;obtain ⟨x21,h22,hy10⟩:=bind_some hy10;refine zao fun _ z=>?_;simp only [go_sem,seval,e14];refine SC.by_ (zaN n x16.2 ([44]:Str) _ h22 _ _ _ P0 (by simp only [go_sem,↓reduceIte,e14,hg3])) ?_;simp only [go_sem,seval];apply z;refine zbn (!x21.1) (fun c23=>?_) (fun c23=>?_)
    ·replace hy10:=zaA c23 hy10;refine zbG ?_
     try simp only [seval,zaS,zaK,zaa]
     obtain rfl:=zag hy10;obtain rfl:=zag hy6;refine ⟨by decide,(9::i7::7::q),0,?_⟩;simp only [go_sem,seval,zaW,zaz hpP0,hn1_0,hn2_0,c23,e14]
    ·replace hy10:=zaB c23 hy10;refine zav ?_
     try simp only [zaa,zaq]
     refine ⟨c11,Nat.lt_succ_self _,(v8++[x16.1]),x21.2,(9::i7::7::q),0,hy10,?_⟩;simp only [go_sem,seval,zaW,zaz hpP0,hn1_0,hn2_0,c23,e14]
   ·replace hy10:=zaB c15 hy10;refine zbG ?_
    try simp only [zaS,zaK,↓reduceIte,zaa]
    obtain rfl:=zag hy10;obtain rfl:=zag hy6;refine ⟨by decide,o_v8,j_v8,?_⟩;simp only [go_sem,seval,c15,e14]
  ·rintro E24 m25 ⟨oy6_5,jy6_5,e26⟩ _;simp only [zaa];refine zah ?_;obtain ⟨x27,h28,h⟩:=bind_some h;refine zao fun _ z=>?_;simp only [go_sem,seval,e26];refine SC.by_ (zaH n y6.2 ([41]:Str) _ h28 _ _ _ P0 (by simp only [go_sem,e26,hg3])) ?_;simp only [go_sem,Nat.reduceAdd];apply z;refine zan fun _ z=>?_;simp only [go_sem,seval,e26];apply z;refine zau ?_;obtain rfl:=zag h;refine ⟨by simp,?_⟩;simp only [go_sem,↓reduceIte,zaz hpP0,e26]
def zi0 (f:zac->zab->Int->Option (zab × zac)):Prop:=∀a0 a1 a2 r,f a0 a1 a2=some r->∀(q:Pa) (m:M) (vs:List V) (P0:Pa),vs.map V.weak1=[.ptr P0 0,.agg ((zab.C a1)),.lit (.int .i64 a2)]/\m.blk P0=some ((zac.C a0))/\m.gl 3=.eptr [(cA cS zaZ)] 0 0/\m.gl 5=.eptr [(cA (cA cS) zbq)] 0 0->SC Tryz.prog 189 vs q m (fun v m'=>v=.agg ((zab.C r.1))/\m'=(m.set P0 ((zac.C r.2))))
theorem ziw (n:Nat):zi0 (zfw n):=by
 rintro a0 a1 a2 r h q m vs P0 ⟨hv,hmP0,hg3,hg5⟩;refine SC.weak ?_;rw [hv];refine SC.apart hmP0 fun hpP0=>?_;have hmsP0:=za0 hmP0
 try simp only [go_sem] at hmP0 hmsP0
 refine SC_w Tryz.func189 rfl (fun xs w=>Tryz.call189 xs w) Tryz.ntmps189 (by kernel_rfl) Tryz.results189 ?_;unfold zfw at h;refine zan fun _ z=>?_;simp only [go_sem,seval];apply z;refine zah ?_;obtain ⟨x5,h6,h⟩:=bind_some h;refine zao fun _ z=>?_;simp only [go_sem,seval];refine SC.by_ (zb3 n a0 _ h6 _ _ _ P0 (by simp only [go_sem,↓reduceIte,pz1 hpP0,hmP0,hg3])) ?_;simp only [go_sem,seval,pz1 hpP0];apply z;refine zah ?_;obtain ⟨y7,hy7,h⟩:=bind_some h;refine zbf 37 [] [((1::q),4)] rfl (fun E' m'=>E' 3=.ptr (0::q) 0/\E' 4=.ptr (1::q) 0/\E' 6=.ptr (3::q) 0/\m'.blk P0=some ((zac.C y7.1))/\m'.blk (0::q)=some ([.ptr P0 0])/\m'.blk (1::q)=some ((zab.C y7.2))/\m'.blk (3::q)=some ([.lit (.int .i64 (0:Int)),.lit (.int .i64 (0:Int)),.lit (.string (bs [])),.lit (.int .u32 (0:Int)),.list .self ([].map zab.C)])/\m'.gl=m.gl/\m.back q m'=(m.set P0 ((zac.C y7.1)))) ?_ ?_
 ·refine zaG ?_;refine zah ?_;obtain ⟨x8,h9,hy7⟩:=bind_some hy7;refine zao fun _ z=>?_;simp only [go_sem,seval,pz1 hpP0];refine SC.by_ (zdK n x5.2 ([40]:Str) _ h9 _ _ _ P0 (by simp only [go_sem,↓reduceIte,pz1 hpP0,hg3])) ?_;simp only [go_sem,seval];apply z;refine zbn x8 (fun c10=>?_) (fun c10=>?_)
  ·replace hy7:=zaA c10 hy7;obtain ⟨x11,h12,hy7⟩:=bind_some hy7;refine zca fun _ z=>?_;simp only [go_sem,seval,pz1 hpP0,c10];refine SC.by_ (zgg n x5.2 a2 _ h12 _ _ _ P0 (0::q) (2::q) (by simp only [go_sem,seval,pz1 hpP0,hg3,hg5])) ?_;simp only [go_sem,seval,pz1 hpP0];apply z;simp only [zaa,zaq];obtain rfl:=zag hy7;refine ⟨by decide,?_⟩;simp only [go_sem,seval,zam,zak,zaz hpP0,pz1 hpP0]
  ·replace hy7:=zaB c10 hy7;refine zah ?_;obtain ⟨x13,h14,hy7⟩:=bind_some hy7;refine zao fun _ z=>?_;simp only [go_sem,seval,pz1 hpP0,c10];refine SC.by_ (zaN n x5.2 ([91]:Str) _ h14 _ _ _ P0 (by simp only [go_sem,↓reduceIte,pz1 hpP0,hg3])) ?_;simp only [go_sem,seval];apply z;refine zbn x13.1 (fun c15=>?_) (fun c15=>?_)
   ·replace hy7:=zaA c15 hy7;refine zah ?_;obtain ⟨x16,h17,hy7⟩:=bind_some hy7;refine zao fun _ z=>?_;simp only [go_sem,seval,pz1 hpP0,c15];refine SC.by_ (zbN n x13.2 (IntKind.i64.wrap (a2+(2:Int))) _ h17 _ _ _ P0 (by simp only [go_sem,↓reduceIte,hg3,hg5])) ?_;simp only [go_sem,seval,pz1 hpP0];apply z;refine zah ?_;obtain ⟨x18,h19,hy7⟩:=bind_some hy7;refine zao fun _ z=>?_;simp only [go_sem,seval,pz1 hpP0];refine SC.by_ (zaH n x16.2 ([93]:Str) _ h19 _ _ _ P0 (by simp only [go_sem,↓reduceIte,pz1 hpP0,hg3])) ?_;simp only [go_sem,Nat.reduceAdd];apply z;refine zah ?_;obtain ⟨x20,h21,hy7⟩:=bind_some hy7;refine zao fun _ z=>?_;simp only [go_sem,seval,pz1 hpP0];refine SC.by_ (zaH n x18 ([61]:Str) _ h21 _ _ _ P0 (by simp only [go_sem,↓reduceIte,hg3])) ?_;simp only [go_sem,Nat.reduceAdd];apply z;obtain ⟨x22,h23,hy7⟩:=bind_some hy7;obtain ⟨f24,hy7⟩:=zaM hy7;refine zaO (tbl:=[0,1,0,0,8,28,60,127,255,511]) (ord:=[(2,0),(3,0),(4,0),(5,0),(0,0),(1,1),(6,0),(7,0),(8,0),(9,0)]) 37 rfl (by kernel_rfl) (by kernel_rfl) fun _ z=>?_;simp only [go_sem,seval,pz1 hpP0];refine zaT (zbN n x20 (IntKind.i64.wrap (a2+(1:Int))) _ h23 _ _ _ P0 (by simp only [go_sem,↓reduceIte,hg3,hg5])) rfl ?_;simp only [go_sem,seval,pz1 hpP0];apply z;simp only [zaa,zaq];obtain rfl:=zag hy7;refine ⟨by decide,?_⟩;simp only [go_sem,seval,zam,zaY,zaW,zak,zaz hpP0,pz1 hpP0]
   ·replace hy7:=zaB c15 hy7;refine zah ?_;obtain ⟨x25,h26,hy7⟩:=bind_some hy7;refine zao fun _ z=>?_;simp only [go_sem,seval,pz1 hpP0,c15];refine SC.by_ (zaH n x13.2 ([61]:Str) _ h26 _ _ _ P0 (by simp only [go_sem,↓reduceIte,hg3])) ?_;simp only [go_sem,Nat.reduceAdd];apply z;obtain ⟨x27,h28,hy7⟩:=bind_some hy7;refine zca fun _ z=>?_;simp only [go_sem,seval,pz1 hpP0];refine SC.by_ (zbN n x25 (IntKind.i64.wrap (a2+(1:Int))) _ h28 _ _ _ P0 (by simp only [go_sem,↓reduceIte,hg3,hg5])) ?_;simp only [go_sem,seval,pz1 hpP0];apply z;simp only [zaa,zaq];obtain rfl:=zag hy7;refine ⟨by decide,?_⟩;simp only [go_sem,seval,zam,zaY,zak,zaz hpP0,pz1 hpP0]
 ·intro E29 m30 e31 _;simp only [zaa];refine zah ?_;obtain ⟨x32,h33,h⟩:=bind_some h;refine zao fun _ z=>?_;simp only [go_sem,seval,e31];refine SC.by_ (zaH n y7.1 ([59]:Str) _ h33 _ _ _ P0 (by simp only [go_sem,e31,hg3])) ?_;simp only [go_sem,Nat.reduceAdd];apply z;refine zan fun _ z=>?_;simp only [go_sem,seval,pz1 hpP0,e31];apply z;refine zau ?_;obtain rfl:=zag h;refine ⟨by simp,?_⟩;simp only [go_sem,seval,zam,zaz hpP0,e31]
def zdj (f:zac->Int->Option (zab × zac)):Prop:=∀a0 a1 r,f a0 a1=some r->∀(q:Pa) (m:M) (vs:List V) (P0:Pa),vs.map V.weak1=[.ptr P0 0,.lit (.int .i64 a1)]/\m.blk P0=some ((zac.C a0))/\m.gl 3=.eptr [(cA cS zaZ)] 0 0/\m.gl 5=.eptr [(cA (cA cS) zbq)] 0 0->SC Tryz.prog 98 vs q m (fun v m'=>v=.agg ((zab.C r.1))/\m'=(m.set P0 ((zac.C r.2))))
def zd2 (f:zac->Int->Option (zab × zac)):Prop:=∀a0 a1 r,f a0 a1=some r->∀(q:Pa) (m:M) (vs:List V) (P0:Pa),vs.map V.weak1=[.ptr P0 0,.lit (.int .i64 a1)]/\m.blk P0=some ((zac.C a0))/\m.gl 3=.eptr [(cA cS zaZ)] 0 0/\m.gl 5=.eptr [(cA (cA cS) zbq)] 0 0->SC Tryz.prog 150 vs q m (fun v m'=>v=.agg ((zab.C r.1))/\m'=(m.set P0 ((zac.C r.2))))
def zeH (f:zac->zab->Int->Option (zab × zac)):Prop:=∀a0 a1 a2 r,f a0 a1 a2=some r->∀(q:Pa) (m:M) (vs:List V) (P0:Pa),vs.map V.weak1=[.ptr P0 0,.agg ((zab.C a1)),.lit (.int .i64 a2)]/\m.blk P0=some ((zac.C a0))/\m.gl 3=.eptr [(cA cS zaZ)] 0 0/\m.gl 5=.eptr [(cA (cA cS) zbq)] 0 0->SC Tryz.prog 187 vs q m (fun v m'=>v=.agg ((zab.C r.1))/\m'=(m.set P0 ((zac.C r.2))))
def zfd (f:zac->zab->Int->Option (zab × zac)):Prop:=∀a0 a1 a2 r,f a0 a1 a2=some r->∀(q:Pa) (m:M) (vs:List V) (P0:Pa),vs.map V.weak1=[.ptr P0 0,.agg ((zab.C a1)),.lit (.int .i64 a2)]/\m.blk P0=some ((zac.C a0))/\m.gl 3=.eptr [(cA cS zaZ)] 0 0/\m.gl 5=.eptr [(cA (cA cS) zbq)] 0 0->SC Tryz.prog 188 vs q m (fun v m'=>v=.agg ((zab.C r.1))/\m'=(m.set P0 ((zac.C r.2))))
theorem zhF {zbB:zac->Int->Option (zab × zac)} (zgJ:zd2 zbB) (n:Nat):zdj (zeV zbB n):=by
 rintro a0 a1 r h q m vs P0 ⟨hv,hmP0,hg3,hg5⟩;refine SC.weak ?_;rw [hv];refine SC.apart hmP0 fun hpP0=>?_;have hmsP0:=za0 hmP0
 try simp only [go_sem] at hmP0 hmsP0
 refine SC_w Tryz.func98 rfl (fun xs w=>Tryz.call98 xs w) Tryz.ntmps98 (by kernel_rfl) Tryz.results98 ?_;unfold zeV at h;refine zan fun _ z=>?_;simp only [go_sem];apply z;refine zah ?_;obtain ⟨x2,h3,h⟩:=bind_some h;refine zao fun _ z=>?_;simp only [go_sem,seval];refine SC.by_ (zgb a0 a1 _ h3 _ _ _ P0 (by simp only [go_sem,↓reduceIte,pz2 hpP0,hmP0])) ?_;simp only [go_sem,Nat.reduceAdd];apply z;refine zah ?_;obtain ⟨x4,h6,h⟩:=bind_some h;refine zao fun _ z=>?_;simp only [go_sem,seval];refine SC.mono (zb2 x2 (4:Int) _ h6 _ _ _ P0 (by simp only [go_sem,↓reduceIte])) ?_;rintro _ _ ⟨o_x4,j_x4,s_x4,rfl,rfl⟩;replace s_x4:q <:+ o_x4:=List.IsSuffix.trans (by simp only [go_sem]) s_x4;simp only [go_sem,seval];apply z;refine zah ?_;obtain ⟨x7,h8,h⟩:=bind_some h;refine zao fun _ z=>?_;simp only [go_sem,seval];refine SC.by_ (zaH n x4.2 ([123]:Str) _ h8 _ _ _ P0 (by simp only [go_sem,↓reduceIte,pz2 hpP0,hg3])) ?_;simp only [go_sem,Nat.reduceAdd];apply z;refine zah ?_;refine zaG ?_;obtain ⟨y12,hy12,h⟩:=bind_some h;refine zbu [] [] rfl (fun c E' m'=>∃v10 v11,zcV zbB n a1 c v10 v11=some y12/\E' 0=.ptr P0 0/\E' 1=.lit (.int .i64 a1)/\E' 4=.ptr (0::q) 0/\E' 5=.ptr (6::q) 0/\m'.blk P0=some ((zac.C v10))/\m'.blk (0::q)=some ([.lit (.int .i64 (0:Int)),.lit (.int .i64 (0:Int)),.lit (.string (bs [])),.lit (.int .u32 (0:Int)),.list .self ([].map zab.C)])/\m'.blk (6::q)=some ([.lit (.int .i64 v11.zbA),.lit (.int .i64 v11.At_),.lit (.string (bs v11.zbr)),.lit (.int .u32 v11.Num_),.list .self (v11.zax.map zab.C)])/\m'.gl=m.gl/\m.back q m'=(m.set P0 ((zac.C v10)))) n ⟨x7,x4.1,hy12,?_⟩ ?_
 ·simp only [go_sem,seval,zam,zaY,zaW,zak,zaz hpP0,pz2 hpP0,s_x4]
 rintro i9 c13 E14 m15 ⟨v10,v11,hy12,e16⟩ _
 rcases c13 with _ | c13
 ·exact absurd hy12 (by rw [zcV];exact fun e=>nomatch e)
 rw [zcV] at hy12;refine zah ?_;refine zah ?_;obtain ⟨y17,hy17,hy12⟩:=bind_some hy12;refine zbf 10 [] [] rfl (fun E' m'=>E' 0=.ptr P0 0/\E' 1=.lit (.int .i64 a1)/\E' 4=.ptr (0::q) 0/\E' 5=.ptr (6::q) 0/\E' 22=.lit (.bool y17)/\m'.blk P0=some ((zac.C v10))/\m'.blk (0::q)=some ([.lit (.int .i64 (0:Int)),.lit (.int .i64 (0:Int)),.lit (.string (bs [])),.lit (.int .u32 (0:Int)),.list .self ([].map zab.C)])/\m'.blk (6::q)=some ([.lit (.int .i64 v11.zbA),.lit (.int .i64 v11.At_),.lit (.string (bs v11.zbr)),.lit (.int .u32 v11.Num_),.list .self (v11.zax.map zab.C)])/\m'.gl=m.gl/\m.back q m'=(m.set P0 ((zac.C v10)))) ?_ ?_
 ·rcases za9 (v10.e_ == (0:Int)) with c18 | c18
  ·replace hy17:=zaA c18 hy17;obtain ⟨x19,h20,hy17⟩:=bind_some hy17;refine zao fun _ z=>?_;simp only [go_sem,seval,c18,e16];refine SC.by_ (zdK n v10 ([125]:Str) _ h20 _ _ _ P0 (by simp only [go_sem,e16,hg3])) ?_;simp only [go_sem,seval];apply z;obtain rfl:=zag hy17;refine ⟨by decide,?_⟩;simp only [go_sem,seval,e16]
  ·replace hy17:=zaB c18 hy17;refine zao fun _ z=>?_;simp only [go_sem,seval,c18,e16];apply z;obtain rfl:=zag hy17;refine ⟨by decide,?_⟩;simp only [go_sem,seval,e16]
 ·intro E21 m22 e23 _;simp only [zaa];refine zbF y17 (by simp only [go_sem,e23]) (fun c24=>?_) (fun c24=>?_)
  ·replace hy12:=zaA c24 hy12;refine zav ?_
   try simp only [zaa]
   refine zaG ?_;obtain ⟨x25,h26,hy12⟩:=bind_some hy12;obtain ⟨f27,hy12⟩:=zaM hy12;have f28:v11.zax.length+1<=1073741824:=by first | omega | (simp only [List.length_append,List.length_cons,List.length_nil] at f27 ⊢;omega)
   have f29:v11.zax.length<=1073741823:=by first | omega | (simp only [List.length_append,List.length_cons,List.length_nil] at f27 ⊢;omega)
   refine zaO (tbl:=[0,1,0,0,12,28,63,127,255]) (ord:=[(2,0),(3,0),(4,0),(0,0),(1,1),(5,0),(6,0),(7,0),(8,0)]) 19 rfl (by kernel_rfl) (by kernel_rfl) fun _ z=>?_;simp only [go_sem,seval,e23];refine zaT (zgJ v10 a1 _ h26 _ _ _ P0 (by simp only [go_sem,e23,hg3,hg5])) rfl ?_;simp only [go_sem,seval,pz2 hpP0,f28,e23];apply z;simp only [zaa,zaq];refine ⟨c13,Nat.lt_succ_self _,x25.2,({ v11 with zax:=(v11.zax++[x25.1]) }:zab),hy12,?_⟩;simp only [go_sem,seval,zam,zaY,zaW,zaz hpP0,pz2 hpP0,e23]
  ·replace hy12:=zaB c24 hy12;refine zbG ?_
   try simp only [zaS,zaK,↓reduceIte,zaa]
   obtain rfl:=zag hy12;refine zah ?_;obtain ⟨x30,h31,h⟩:=bind_some h;refine zao fun _ z=>?_;simp only [go_sem,seval,e23];refine SC.by_ (zaH n v10 ([125]:Str) _ h31 _ _ _ P0 (by simp only [go_sem,e23,hg3])) ?_;simp only [go_sem,Nat.reduceAdd];apply z;refine zan fun _ z=>?_;simp only [go_sem,seval,pz2 hpP0,e23];apply z;refine zau ?_;obtain rfl:=zag h;refine ⟨by simp,?_⟩;simp only [go_sem,seval,zam,zaz hpP0,e23]
theorem zgH {zdq:zac->zab->Int->Option (zab × zac)} (zht:zeH zdq) {zdO:zac->zab->Int->Option (zab × zac)} (zin:zfd zdO) (n:Nat):zd2 (zd1 zdq zdO n):=by
 rintro a0 a1 r h q m vs P0 ⟨hv,hmP0,hg3,hg5⟩;refine SC.weak ?_;rw [hv];refine SC.apart hmP0 fun hpP0=>?_;have hmsP0:=za0 hmP0
 try simp only [go_sem] at hmP0 hmsP0
 refine SC_w Tryz.func150 rfl (fun xs w=>Tryz.call150 xs w) Tryz.ntmps150 (by kernel_rfl) Tryz.results150 ?_;unfold zd1 at h;refine zan fun _ z=>?_;simp only [go_sem];apply z;refine zah ?_;obtain ⟨x2,h4,h⟩:=bind_some h;refine zao fun _ z=>?_;simp only [go_sem,seval];refine SC.mono (zb2 a0 (8:Int) _ h4 _ _ _ P0 (by simp only [go_sem,↓reduceIte,pz1 hpP0,hmP0])) ?_;rintro _ _ ⟨o_x2,j_x2,s_x2,rfl,rfl⟩;replace s_x2:q <:+ o_x2:=List.IsSuffix.trans (by simp only [go_sem]) s_x2;simp only [go_sem,seval];apply z;refine zah ?_;obtain ⟨y5,hy5,h⟩:=bind_some h;refine zbf 26 [] [] rfl (fun E' m'=>∃(y5a:(zac × zab)),y5=.inl y5a/\E' 0=.ptr P0 0/\E' 4=.ptr (0::q) 0/\E' 5=.ptr (3::q) 0/\m'.blk P0=some ((zac.C y5a.1))/\m'.blk (0::q)=some ([.lit (.int .i64 (0:Int)),.lit (.int .i64 (0:Int)),.lit (.string (bs [])),.lit (.int .u32 (0:Int)),.list .self ([].map zab.C)])/\m'.blk (3::q)=some ([.lit (.int .i64 y5a.2.zbA),.lit (.int .i64 y5a.2.At_),.lit (.string (bs y5a.2.zbr)),.lit (.int .u32 y5a.2.Num_),.list .self (y5a.2.zax.map zab.C)])/\m'.gl=m.gl/\m.back q m'=(m.set P0 ((zac.C y5a.1)))) ?_ ?_
 ·refine zaG ?_;refine zah ?_;obtain ⟨x6,h7,hy5⟩:=bind_some hy5;refine zao fun _ z=>?_;simp only [go_sem,seval];refine SC.by_ (zaN n x2.2 ([108,101,116]:Str) _ h7 _ _ _ P0 (by simp only [go_sem,↓reduceIte,pz1 hpP0,hg3])) ?_;simp only [go_sem,seval];apply z;refine zbn x6.1 (fun c8=>?_) (fun c8=>?_)
  ·replace hy5:=zaA c8 hy5;refine zan fun _ z=>?_;simp only [go_sem,seval,pz1 hpP0,c8];apply z;refine zah ?_;obtain ⟨x9,h10,hy5⟩:=bind_some hy5;refine zao fun _ z=>?_;simp only [go_sem,seval];refine SC.by_ (zfV n x6.2 ({ x2.1 with zbA:=(5:Int) }:zab) (IntKind.i64.wrap (a1+(1:Int))) _ h10 _ _ _ P0 (by simp only [go_sem,↓reduceIte,pz1 hpP0,hg3,hg5])) ?_;simp only [go_sem,seval,pz1 hpP0];apply z;refine zau ?_
   try simp only [zat,zaC]
   obtain rfl:=zag hy5;simp only [Sum.elim_inr] at h;obtain rfl:=zag h;refine ⟨by simp,?_⟩;simp only [go_sem,seval,zam,zaY,zaW,zak,zaz hpP0,s_x2]
  ·replace hy5:=zaB c8 hy5;refine zah ?_;obtain ⟨x11,h12,hy5⟩:=bind_some hy5;refine zao fun _ z=>?_;simp only [go_sem,seval,c8];refine SC.by_ (zaN n x6.2 ([118,97,114]:Str) _ h12 _ _ _ P0 (by simp only [go_sem,↓reduceIte,hg3])) ?_;simp only [go_sem,seval];apply z;refine zbn x11.1 (fun c13=>?_) (fun c13=>?_)
   ·replace hy5:=zaA c13 hy5;refine zan fun _ z=>?_;simp only [go_sem,seval,pz1 hpP0,c13];apply z;refine zah ?_;obtain ⟨x14,h15,hy5⟩:=bind_some hy5;refine zao fun _ z=>?_;simp only [go_sem,seval];refine SC.by_ (zfV n x11.2 ({ x2.1 with zbA:=(6:Int) }:zab) (IntKind.i64.wrap (a1+(1:Int))) _ h15 _ _ _ P0 (by simp only [go_sem,↓reduceIte,pz1 hpP0,hg3,hg5])) ?_;simp only [go_sem,seval,pz1 hpP0];apply z;refine zau ?_
    try simp only [zat,zaC]
    obtain rfl:=zag hy5;simp only [Sum.elim_inr] at h;obtain rfl:=zag h;refine ⟨by simp,?_⟩;simp only [go_sem,seval,zam,zaY,zaW,zak,zaz hpP0,s_x2]
   ·replace hy5:=zaB c13 hy5;refine zah ?_;obtain ⟨x16,h17,hy5⟩:=bind_some hy5;refine zao fun _ z=>?_;simp only [go_sem,seval,c13];refine SC.by_ (zaN n x11.2 ([97,114,114]:Str) _ h17 _ _ _ P0 (by simp only [go_sem,↓reduceIte,hg3])) ?_;simp only [go_sem,seval];apply z;refine zbn x16.1 (fun c18=>?_) (fun c18=>?_)
    ·replace hy5:=zaA c18 hy5;refine zah ?_;obtain ⟨x19,h20,hy5⟩:=bind_some hy5;refine zao fun _ z=>?_;simp only [go_sem,seval,c18];refine SC.by_ (zb3 n x16.2 _ h20 _ _ _ P0 (by simp only [go_sem,↓reduceIte,hg3])) ?_;simp only [go_sem,seval,pz1 hpP0];apply z;obtain ⟨x21,h22,hy5⟩:=bind_some hy5;refine zca fun _ z=>?_;simp only [go_sem,seval];refine SC.by_ (zf9 n x19.2 _ h22 _ _ _ P0 (by simp only [go_sem,↓reduceIte,pz1 hpP0,hg3])) ?_;simp only [go_sem,seval,pz1 hpP0];apply z;simp only [zaa,zaq];obtain rfl:=zag hy5;refine ⟨by decide,(x21.2,({ x2.1 with zbA:=(7:Int),zbr:=x19.1,Num_:=x21.1 }:zab)),rfl,?_⟩;simp only [go_sem,seval,zam,zaY,zaW,zak,zaz hpP0,pz1 hpP0,s_x2]
    ·replace hy5:=zaB c18 hy5;refine zah ?_;obtain ⟨x23,h24,hy5⟩:=bind_some hy5;refine zao fun _ z=>?_;simp only [go_sem,seval,c18];refine SC.by_ (zaN n x16.2 ([114,101,116,117,114,110]:Str) _ h24 _ _ _ P0 (by simp only [go_sem,↓reduceIte,hg3])) ?_;simp only [go_sem,seval];apply z;refine zbn x23.1 (fun c25=>?_) (fun c25=>?_)
     ·replace hy5:=zaA c25 hy5;obtain ⟨x26,h27,hy5⟩:=bind_some hy5;refine zca fun _ z=>?_;simp only [go_sem,seval,c25];refine SC.by_ (zbN n x23.2 (IntKind.i64.wrap (a1+(1:Int))) _ h27 _ _ _ P0 (by simp only [go_sem,↓reduceIte,hg3,hg5])) ?_;simp only [go_sem,seval,pz1 hpP0];apply z;simp only [zaa,zaq];obtain rfl:=zag hy5;refine ⟨by decide,(x26.2,({ x2.1 with zbA:=(13:Int),zax:=[x26.1] }:zab)),rfl,?_⟩;simp only [go_sem,seval,zam,zaY,zaW,zak,zaz hpP0,pz1 hpP0,s_x2]
     ·replace hy5:=zaB c25 hy5;refine zah ?_;obtain ⟨x28,h29,hy5⟩:=bind_some hy5;refine zao fun _ z=>?_;simp only [go_sem,seval,c25];refine SC.by_ (zaN n x23.2 ([105,102]:Str) _ h29 _ _ _ P0 (by simp only [go_sem,↓reduceIte,hg3])) ?_;simp only [go_sem,seval];apply z;refine zbn x28.1 (fun c30=>?_) (fun c30=>?_)
      ·replace hy5:=zaA c30 hy5;refine zah ?_;obtain ⟨x31,h32,hy5⟩:=bind_some hy5;refine zao fun _ z=>?_;simp only [go_sem,seval,pz1 hpP0,c30];refine SC.by_ (zht x28.2 x2.1 a1 _ h32 _ _ _ P0 (by simp only [go_sem,↓reduceIte,hg3,hg5])) ?_;simp only [go_sem,seval,pz1 hpP0];apply z;refine zau ?_
       try simp only [zat,zaC]
       obtain rfl:=zag hy5;simp only [Sum.elim_inr] at h;obtain rfl:=zag h;refine ⟨by simp,?_⟩;simp only [go_sem,seval,zam,zaY,zaW,zak,zaz hpP0,s_x2]
      ·replace hy5:=zaB c30 hy5;refine zah ?_;obtain ⟨x33,h34,hy5⟩:=bind_some hy5;refine zao fun _ z=>?_;simp only [go_sem,seval,c30];refine SC.by_ (zaN n x28.2 ([102,111,114]:Str) _ h34 _ _ _ P0 (by simp only [go_sem,↓reduceIte,hg3])) ?_;simp only [go_sem,seval];apply z;refine zbn x33.1 (fun c35=>?_) (fun c35=>?_)
       ·replace hy5:=zaA c35 hy5;refine zah ?_;obtain ⟨x36,h37,hy5⟩:=bind_some hy5;refine zao fun _ z=>?_;simp only [go_sem,seval,pz1 hpP0,c35];refine SC.by_ (zin x33.2 x2.1 a1 _ h37 _ _ _ P0 (by simp only [go_sem,↓reduceIte,hg3,hg5])) ?_;simp only [go_sem,seval,pz1 hpP0];apply z;refine zau ?_
        try simp only [zat,zaC]
        obtain rfl:=zag hy5;simp only [Sum.elim_inr] at h;obtain rfl:=zag h;refine ⟨by simp,?_⟩;simp only [go_sem,seval,zam,zaY,zaW,zak,zaz hpP0,s_x2]
       ·replace hy5:=zaB c35 hy5;refine zah ?_;obtain ⟨x38,h39,hy5⟩:=bind_some hy5;refine zao fun _ z=>?_;simp only [go_sem,seval,pz1 hpP0,c35];refine SC.by_ (ziw n x33.2 x2.1 a1 _ h39 _ _ _ P0 (by simp only [go_sem,↓reduceIte,hg3,hg5])) ?_;simp only [go_sem,seval,pz1 hpP0];apply z;refine zau ?_
        try simp only [zat,zaC]
        obtain rfl:=zag hy5;simp only [Sum.elim_inr] at h;obtain rfl:=zag h;refine ⟨by simp,?_⟩;simp only [go_sem,seval,zam,zaY,zaW,zak,zaz hpP0,s_x2]
 ·rintro E40 m41 ⟨y5a,rfl,e42⟩ _;simp only [Sum.elim_inl] at h;simp only [zaa];refine zah ?_;obtain ⟨x43,h44,h⟩:=bind_some h;refine zao fun _ z=>?_;simp only [go_sem,seval,e42];refine SC.by_ (zaH n y5a.1 ([59]:Str) _ h44 _ _ _ P0 (by simp only [go_sem,e42,hg3])) ?_;simp only [go_sem,Nat.reduceAdd];apply z;refine zan fun _ z=>?_;simp only [go_sem,seval,pz1 hpP0,e42];apply z;refine zau ?_;obtain rfl:=zag h;refine ⟨by simp,?_⟩;simp only [go_sem,seval,zam,zaz hpP0,e42]
theorem zhj {zby:zac->Int->Option (zab × zac)} (zdu:zdj zby) (n:Nat):zeH (zeG zby n):=by
 rintro a0 a1 a2 r h q m vs P0 ⟨hv,hmP0,hg3,hg5⟩;refine SC.weak ?_;rw [hv];refine SC.apart hmP0 fun hpP0=>?_;have hmsP0:=za0 hmP0
 try simp only [go_sem] at hmP0 hmsP0
 refine SC_w Tryz.func187 rfl (fun xs w=>Tryz.call187 xs w) Tryz.ntmps187 (by kernel_rfl) Tryz.results187 ?_;unfold zeG at h;refine zan fun _ z=>?_;simp only [go_sem,Nat.reduceAdd];apply z;refine zah ?_;obtain ⟨x3,h4,h⟩:=bind_some h;refine zao fun _ z=>?_;simp only [go_sem,seval];refine SC.by_ (zbN n a0 (IntKind.i64.wrap (a2+(1:Int))) _ h4 _ _ _ P0 (by simp only [go_sem,↓reduceIte,pz1 hpP0,hmP0,hg3,hg5])) ?_;simp only [go_sem,seval,pz1 hpP0];apply z;refine zah ?_;obtain ⟨x5,h6,h⟩:=bind_some h;obtain ⟨f7,h⟩:=zaM h;refine zaO (tbl:=[0,1,0,0,8,28,60,127,255,511]) (ord:=[(2,0),(3,0),(4,0),(5,0),(0,0),(1,1),(6,0),(7,0),(8,0),(9,0)]) 21 rfl (by kernel_rfl) (by kernel_rfl) fun _ z=>?_;simp only [go_sem,seval];refine zaT (zdu x3.2 (IntKind.i64.wrap (a2+(1:Int))) _ h6 _ _ _ P0 (by simp only [go_sem,↓reduceIte,pz1 hpP0,hg3,hg5])) rfl ?_;simp only [go_sem,seval,pz1 hpP0];apply z;simp only [zaa];refine zah ?_;refine zah ?_;obtain ⟨x8,h9,h⟩:=bind_some h;refine zao fun _ z=>?_;simp only [go_sem,seval];refine SC.by_ (zaN n x5.2 ([101,108,115,101]:Str) _ h9 _ _ _ P0 (by simp only [go_sem,↓reduceIte,pz1 hpP0,hg3])) ?_;simp only [go_sem,Nat.reduceAdd];apply z;refine zbn x8.1 (fun c10=>?_) (fun c10=>?_)
 ·replace h:=zaA c10 h;obtain ⟨x11,h12,h⟩:=bind_some h;obtain ⟨f13,h⟩:=zaM h;have f14:1+1+1<=1073741824:=by first | omega | (simp only [List.length_append,List.length_cons,List.length_nil] at f13 ⊢;omega)
  refine zaO (tbl:=[0,1,0,0,8,28,60,127,255,511]) (ord:=[(2,0),(3,0),(4,0),(5,0),(0,0),(1,1),(6,0),(7,0),(8,0),(9,0)]) 33 rfl (by kernel_rfl) (by kernel_rfl) fun _ z=>?_;simp only [go_sem,seval,c10];refine zaT (zdu x8.2 (IntKind.i64.wrap (a2+(1:Int))) _ h12 _ _ _ P0 (by simp only [go_sem,↓reduceIte,hg3,hg5])) rfl ?_;simp only [go_sem,seval,pz1 hpP0,f14];apply z;simp only [zaa];refine zan fun _ z=>?_;simp only [go_sem,seval,pz1 hpP0];apply z;refine zau ?_;obtain rfl:=zag h;refine ⟨by simp,?_⟩;simp only [go_sem,seval,zam,zaY,zaW,zak,zaz hpP0]
 ·replace h:=zaB c10 h;refine zav ?_
  try simp only [zaa]
  refine zan fun _ z=>?_;simp only [go_sem,seval,pz1 hpP0,c10];apply z;refine zau ?_;obtain rfl:=zag h;refine ⟨by simp,?_⟩;simp only [go_sem,seval,zam,zaY,zaW,zak,zaz hpP0]
theorem zh5 {zby:zac->Int->Option (zab × zac)} (zdu:zdj zby) (n:Nat):zfd (zfc zby n):=by
 rintro a0 a1 a2 r h q m vs P0 ⟨hv,hmP0,hg3,hg5⟩;refine SC.weak ?_;rw [hv];refine SC.apart hmP0 fun hpP0=>?_;have hmsP0:=za0 hmP0
 try simp only [go_sem] at hmP0 hmsP0
 refine SC_w Tryz.func188 rfl (fun xs w=>Tryz.call188 xs w) Tryz.ntmps188 (by kernel_rfl) Tryz.results188 ?_;unfold zfc at h;refine zan fun _ z=>?_;simp only [go_sem,Nat.reduceAdd];apply z;refine zah ?_;obtain ⟨x3,h4,h⟩:=bind_some h;refine zao fun _ z=>?_;simp only [go_sem,seval];refine SC.by_ (zb3 n a0 _ h4 _ _ _ P0 (by simp only [go_sem,↓reduceIte,pz1 hpP0,hmP0,hg3])) ?_;simp only [go_sem,seval,pz1 hpP0];apply z;refine zah ?_;obtain ⟨x5,h6,h⟩:=bind_some h;refine zao fun _ z=>?_;simp only [go_sem,seval];refine SC.by_ (zaH n x3.2 ([105,110]:Str) _ h6 _ _ _ P0 (by simp only [go_sem,↓reduceIte,pz1 hpP0,hg3])) ?_;simp only [go_sem,Nat.reduceAdd];apply z;refine zah ?_;obtain ⟨x7,h8,h⟩:=bind_some h;refine zao fun _ z=>?_;simp only [go_sem,seval];refine SC.by_ (zbN n x5 (IntKind.i64.wrap (a2+(1:Int))) _ h8 _ _ _ P0 (by simp only [go_sem,↓reduceIte,hg3,hg5])) ?_;simp only [go_sem,seval,pz1 hpP0];apply z;refine zah ?_;obtain ⟨x9,h10,h⟩:=bind_some h;refine zao fun _ z=>?_;simp only [go_sem,seval];refine SC.by_ (zaH n x7.2 ([46,46]:Str) _ h10 _ _ _ P0 (by simp only [go_sem,↓reduceIte,pz1 hpP0,hg3])) ?_;simp only [go_sem,Nat.reduceAdd];apply z;refine zah ?_;obtain ⟨x11,h12,h⟩:=bind_some h;obtain ⟨f13,h⟩:=zaM h;refine zaO (tbl:=[0,1,0,0,8,28,60,127,255,511]) (ord:=[(2,0),(3,0),(4,0),(5,0),(0,0),(1,1),(6,0),(7,0),(8,0),(9,0)]) 29 rfl (by kernel_rfl) (by kernel_rfl) fun _ z=>?_;simp only [go_sem,seval];refine zaT (zbN n x9 (IntKind.i64.wrap (a2+(1:Int))) _ h12 _ _ _ P0 (by simp only [go_sem,↓reduceIte,hg3,hg5])) rfl ?_;simp only [go_sem,seval,pz1 hpP0];apply z;simp only [zaa];refine zah ?_;obtain ⟨x14,h15,h⟩:=bind_some h;obtain ⟨f16,h⟩:=zaM h;have f17:1+1+1<=1073741824:=by first | omega | (simp only [List.length_append,List.length_cons,List.length_nil] at f16 ⊢;omega)
 refine zaO (tbl:=[0,1,0,0,8,28,60,127,255,511]) (ord:=[(2,0),(3,0),(4,0),(5,0),(0,0),(1,1),(6,0),(7,0),(8,0),(9,0)]) 39 rfl (by kernel_rfl) (by kernel_rfl) fun _ z=>?_;simp only [go_sem,seval];refine zaT (zdu x11.2 (IntKind.i64.wrap (a2+(1:Int))) _ h15 _ _ _ P0 (by simp only [go_sem,↓reduceIte,pz1 hpP0,hg3,hg5])) rfl ?_;simp only [go_sem,seval,pz1 hpP0,f17];apply z;simp only [zaa];refine zan fun _ z=>?_;simp only [go_sem,seval,pz1 hpP0];apply z;refine zau ?_;obtain rfl:=zag h;refine ⟨by simp,?_⟩;simp only [go_sem,seval,zam,zaY,zaW,zak,zaz hpP0]
theorem zff:∀n,zdj (zci n)/\zd2 (zh2 n)/\zeH (zjw n)/\zfd (zkl n)
 | 0=>⟨fun _ _ _ h=>zbP h,fun _ _ _ h=>zbP h,fun _ _ _ _ h=>zbP h,fun _ _ _ _ h=>zbP h⟩
 | n+1=>
   have ih:=zff n
   ⟨zhF ih.2.1 n,zgH ih.2.2.1 ih.2.2.2 n,zhj ih.1 n,zh5 ih.1 n⟩
theorem zcq (n:Nat):zdj (zci n):=(zff n).1
def zhE (f:zac->Option (zab × zac)):Prop:=∀a0 r,f a0=some r->∀(q:Pa) (m:M) (vs:List V) (P0:Pa),vs.map V.weak1=[.ptr P0 0]/\m.blk P0=some ((zac.C a0))/\m.gl 3=.eptr [(cA cS zaZ)] 0 0/\m.gl 5=.eptr [(cA (cA cS) zbq)] 0 0->SC Tryz.prog 65 vs q m (fun v m'=>v=.agg ((zab.C r.1))/\m'=(m.set P0 ((zac.C r.2))))
theorem zhi (n:Nat):zhE (zeE n):=by
 rintro a0 r h q m vs P0 ⟨hv,hmP0,hg3,hg5⟩;refine SC.weak ?_;rw [hv];refine SC.apart hmP0 fun hpP0=>?_;have hmsP0:=za0 hmP0
 try simp only [go_sem] at hmP0 hmsP0
 refine SC_w Tryz.func65 rfl (fun xs w=>Tryz.call65 xs w) Tryz.ntmps65 (by kernel_rfl) Tryz.results65 ?_;unfold zeE at h;refine zan fun _ z=>?_;simp only [go_sem];apply z;refine zah ?_;obtain ⟨x2,h4,h⟩:=bind_some h;refine zao fun _ z=>?_;simp only [go_sem,seval];refine SC.mono (zb2 a0 (2:Int) _ h4 _ _ _ P0 (by simp only [go_sem,↓reduceIte,pz1 hpP0,hmP0])) ?_;rintro _ _ ⟨o_x2,j_x2,s_x2,rfl,rfl⟩;replace s_x2:q <:+ o_x2:=List.IsSuffix.trans (by simp only [go_sem]) s_x2;simp only [go_sem,seval];apply z;refine zah ?_;refine zah ?_;obtain ⟨x5,h6,h⟩:=bind_some h;refine zao fun _ z=>?_;simp only [go_sem,seval];refine SC.by_ (zaN n x2.2 ([101,120,112,111,114,116]:Str) _ h6 _ _ _ P0 (by simp only [go_sem,↓reduceIte,pz1 hpP0,hg3])) ?_;simp only [go_sem,Nat.reduceAdd];apply z;refine zbn x5.1 (fun c7=>?_) (fun c7=>?_)
 ·replace h:=zaA c7 h;refine zao fun _ z=>?_;simp only [go_sem,seval,pz1 hpP0,c7];apply z;refine zah ?_;obtain ⟨x8,h9,h⟩:=bind_some h;refine zao fun _ z=>?_;simp only [go_sem,seval];refine SC.by_ (zaH n x5.2 ([102,110]:Str) _ h9 _ _ _ P0 (by simp only [go_sem,↓reduceIte,pz1 hpP0,hg3])) ?_;simp only [go_sem,Nat.reduceAdd];apply z;refine zah ?_;obtain ⟨x10,h11,h⟩:=bind_some h;refine zao fun _ z=>?_;simp only [go_sem,seval];refine SC.by_ (zb3 n x8 _ h11 _ _ _ P0 (by simp only [go_sem,↓reduceIte,hg3])) ?_;simp only [go_sem,seval,pz1 hpP0];apply z;refine zah ?_;obtain ⟨x12,h13,h⟩:=bind_some h;refine zao fun _ z=>?_;simp only [go_sem,seval];refine SC.mono (zeR n x10.2 _ h13 _ _ _ P0 (by simp only [go_sem,↓reduceIte,pz1 hpP0,hg3])) ?_;rintro _ _ ⟨o_x12,j_x12,s_x12,rfl,rfl⟩;replace s_x12:q <:+ o_x12:=List.IsSuffix.trans (by simp only [go_sem]) s_x12;simp only [go_sem,seval,pz1 hpP0];apply z;refine zah ?_;refine zah ?_;obtain ⟨x14,h15,h⟩:=bind_some h;refine zao fun _ z=>?_;simp only [go_sem,seval];refine SC.by_ (zaN n x12.2 ([45,62]:Str) _ h15 _ _ _ P0 (by simp only [go_sem,↓reduceIte,pz1 hpP0,hg3])) ?_;simp only [go_sem,Nat.reduceAdd];apply z;refine zbn x14.1 (fun c16=>?_) (fun c16=>?_)
  ·replace h:=zaA c16 h;refine zaG ?_;refine zah ?_;obtain ⟨x17,h18,h⟩:=bind_some h;refine zao fun _ z=>?_;simp only [go_sem,seval,c16];refine SC.by_ (zaN n x14.2 ([117,51,50]:Str) _ h18 _ _ _ P0 (by simp only [go_sem,↓reduceIte,hg3])) ?_;simp only [go_sem,seval];apply z;refine zbn x17.1 (fun c19=>?_) (fun c19=>?_)
   ·replace h:=zaA c19 h;refine zca fun _ z=>?_;simp only [go_sem,seval,pz1 hpP0,c19];apply z;simp only [zaa,zaq];refine zah ?_;obtain ⟨x20,h21,h⟩:=bind_some h;obtain ⟨f22,h⟩:=zaM h;have f23:x12.1.length+1<=1073741824:=by first | omega | (simp only [List.length_append,List.length_cons,List.length_nil] at f22 ⊢;omega)
    have f24:x12.1.length<=1073741823:=by first | omega | (simp only [List.length_append,List.length_cons,List.length_nil] at f22 ⊢;omega)
    refine zaO (tbl:=[0,1,0,4,12,31,63,127]) (ord:=[(2,0),(3,0),(0,0),(1,1),(4,0),(5,0),(6,0),(7,0)]) 39 rfl (by kernel_rfl) (by kernel_rfl) fun _ z=>?_;simp only [go_sem,seval];refine zaT (zcq n x17.2 (1:Int) _ h21 _ _ _ P0 (by simp only [go_sem,↓reduceIte,pz1 hpP0,hg3,hg5])) rfl ?_;simp only [go_sem,seval,pz1 hpP0,f23];apply z;simp only [zaa];refine zan fun _ z=>?_;simp only [go_sem,seval,pz1 hpP0];apply z;refine zau ?_;obtain rfl:=zag h;refine ⟨by simp,?_⟩;simp only [go_sem,seval,zam,zaY,zaW,zak,zaz hpP0,s_x2,s_x12]
   ·replace h:=zaB c19 h;refine zah ?_;obtain ⟨x25,h26,h⟩:=bind_some h;refine zao fun _ z=>?_;simp only [go_sem,seval,c19];refine SC.by_ (zaH n x17.2 ([117,54,52]:Str) _ h26 _ _ _ P0 (by simp only [go_sem,↓reduceIte,hg3])) ?_;simp only [go_sem,Nat.reduceAdd];apply z;refine zca fun _ z=>?_;simp only [go_sem,seval,pz1 hpP0];apply z;simp only [zaa,zaq];refine zah ?_;obtain ⟨x27,h28,h⟩:=bind_some h;obtain ⟨f29,h⟩:=zaM h;have f30:x12.1.length+1<=1073741824:=by first | omega | (simp only [List.length_append,List.length_cons,List.length_nil] at f29 ⊢;omega)
    have f31:x12.1.length<=1073741823:=by first | omega | (simp only [List.length_append,List.length_cons,List.length_nil] at f29 ⊢;omega)
    refine zaO (tbl:=[0,1,0,4,12,31,63,127]) (ord:=[(2,0),(3,0),(0,0),(1,1),(4,0),(5,0),(6,0),(7,0)]) 41 rfl (by kernel_rfl) (by kernel_rfl) fun _ z=>?_;simp only [go_sem,seval];refine zaT (zcq n x25 (1:Int) _ h28 _ _ _ P0 (by simp only [go_sem,↓reduceIte,pz1 hpP0,hg3,hg5])) rfl ?_;simp only [go_sem,seval,pz1 hpP0,f30];apply z;simp only [zaa];refine zan fun _ z=>?_;simp only [go_sem,seval,pz1 hpP0];apply z;refine zau ?_;obtain rfl:=zag h;refine ⟨by simp,?_⟩;simp only [go_sem,seval,zam,zaY,zaW,zak,zaz hpP0,s_x2,s_x12]
  ·replace h:=zaB c16 h;refine zav ?_
   try simp only [zaa]
   refine zah ?_;obtain ⟨x32,h33,h⟩:=bind_some h;obtain ⟨f34,h⟩:=zaM h;have f35:x12.1.length+1<=1073741824:=by first | omega | (simp only [List.length_append,List.length_cons,List.length_nil] at f34 ⊢;omega)
   have f36:x12.1.length<=1073741823:=by first | omega | (simp only [List.length_append,List.length_cons,List.length_nil] at f34 ⊢;omega)
   refine zaO (tbl:=[0,1,0,4,12,31,63,127]) (ord:=[(2,0),(3,0),(0,0),(1,1),(4,0),(5,0),(6,0),(7,0)]) 31 rfl (by kernel_rfl) (by kernel_rfl) fun _ z=>?_;simp only [go_sem,seval,c16];refine zaT (zcq n x14.2 (1:Int) _ h33 _ _ _ P0 (by simp only [go_sem,↓reduceIte,hg3,hg5])) rfl ?_;simp only [go_sem,seval,pz1 hpP0,f35];apply z;simp only [zaa];refine zan fun _ z=>?_;simp only [go_sem,seval,pz1 hpP0];apply z;refine zau ?_;obtain rfl:=zag h;refine ⟨by simp,?_⟩;simp only [go_sem,seval,zam,zaY,zaW,zak,zaz hpP0,s_x2,s_x12]
 ·replace h:=zaB c7 h;refine zav ?_
  try simp only [zaa]
  refine zah ?_;obtain ⟨x37,h38,h⟩:=bind_some h;refine zao fun _ z=>?_;simp only [go_sem,seval,c7];refine SC.by_ (zaH n x5.2 ([102,110]:Str) _ h38 _ _ _ P0 (by simp only [go_sem,↓reduceIte,hg3])) ?_;simp only [go_sem,Nat.reduceAdd];apply z;refine zah ?_;obtain ⟨x39,h40,h⟩:=bind_some h;refine zao fun _ z=>?_;simp only [go_sem,seval];refine SC.by_ (zb3 n x37 _ h40 _ _ _ P0 (by simp only [go_sem,↓reduceIte,hg3])) ?_;simp only [go_sem,seval,pz1 hpP0];apply z;refine zah ?_;obtain ⟨x41,h42,h⟩:=bind_some h;refine zao fun _ z=>?_;simp only [go_sem,seval];refine SC.mono (zeR n x39.2 _ h42 _ _ _ P0 (by simp only [go_sem,↓reduceIte,pz1 hpP0,hg3])) ?_;rintro _ _ ⟨o_x41,j_x41,s_x41,rfl,rfl⟩;replace s_x41:q <:+ o_x41:=List.IsSuffix.trans (by simp only [go_sem]) s_x41;simp only [go_sem,seval,pz1 hpP0];apply z;refine zah ?_;refine zah ?_;obtain ⟨x43,h44,h⟩:=bind_some h;refine zao fun _ z=>?_;simp only [go_sem,seval];refine SC.by_ (zaN n x41.2 ([45,62]:Str) _ h44 _ _ _ P0 (by simp only [go_sem,↓reduceIte,pz1 hpP0,hg3])) ?_;simp only [go_sem,Nat.reduceAdd];apply z;refine zbn x43.1 (fun c45=>?_) (fun c45=>?_)
  ·replace h:=zaA c45 h;refine zaG ?_;refine zah ?_;obtain ⟨x46,h47,h⟩:=bind_some h;refine zao fun _ z=>?_;simp only [go_sem,seval,c45];refine SC.by_ (zaN n x43.2 ([117,51,50]:Str) _ h47 _ _ _ P0 (by simp only [go_sem,↓reduceIte,hg3])) ?_;simp only [go_sem,seval];apply z;refine zbn x46.1 (fun c48=>?_) (fun c48=>?_)
   ·replace h:=zaA c48 h;refine zca fun _ z=>?_;simp only [go_sem,seval,pz1 hpP0,c48];apply z;simp only [zaa,zaq];refine zah ?_;obtain ⟨x49,h50,h⟩:=bind_some h;obtain ⟨f51,h⟩:=zaM h;have f52:x41.1.length+1<=1073741824:=by first | omega | (simp only [List.length_append,List.length_cons,List.length_nil] at f51 ⊢;omega)
    have f53:x41.1.length<=1073741823:=by first | omega | (simp only [List.length_append,List.length_cons,List.length_nil] at f51 ⊢;omega)
    refine zaO (tbl:=[0,1,0,4,12,31,63,127]) (ord:=[(2,0),(3,0),(0,0),(1,1),(4,0),(5,0),(6,0),(7,0)]) 37 rfl (by kernel_rfl) (by kernel_rfl) fun _ z=>?_;simp only [go_sem,seval];refine zaT (zcq n x46.2 (1:Int) _ h50 _ _ _ P0 (by simp only [go_sem,↓reduceIte,pz1 hpP0,hg3,hg5])) rfl ?_;simp only [go_sem,seval,pz1 hpP0,f52];apply z;simp only [zaa];refine zan fun _ z=>?_;simp only [go_sem,seval,pz1 hpP0];apply z;refine zau ?_;obtain rfl:=zag h;refine ⟨by simp,?_⟩;simp only [go_sem,seval,zam,zaY,zaW,zak,zaz hpP0,s_x2,s_x41]
   ·replace h:=zaB c48 h;refine zah ?_;obtain ⟨x54,h55,h⟩:=bind_some h;refine zao fun _ z=>?_;simp only [go_sem,seval,c48];refine SC.by_ (zaH n x46.2 ([117,54,52]:Str) _ h55 _ _ _ P0 (by simp only [go_sem,↓reduceIte,hg3])) ?_;simp only [go_sem,Nat.reduceAdd];apply z;refine zca fun _ z=>?_;simp only [go_sem,seval,pz1 hpP0];apply z;simp only [zaa,zaq];refine zah ?_;obtain ⟨x56,h57,h⟩:=bind_some h;obtain ⟨f58,h⟩:=zaM h;have f59:x41.1.length+1<=1073741824:=by first | omega | (simp only [List.length_append,List.length_cons,List.length_nil] at f58 ⊢;omega)
    have f60:x41.1.length<=1073741823:=by first | omega | (simp only [List.length_append,List.length_cons,List.length_nil] at f58 ⊢;omega)
    refine zaO (tbl:=[0,1,0,4,12,31,63,127]) (ord:=[(2,0),(3,0),(0,0),(1,1),(4,0),(5,0),(6,0),(7,0)]) 39 rfl (by kernel_rfl) (by kernel_rfl) fun _ z=>?_;simp only [go_sem,seval];refine zaT (zcq n x54 (1:Int) _ h57 _ _ _ P0 (by simp only [go_sem,↓reduceIte,pz1 hpP0,hg3,hg5])) rfl ?_;simp only [go_sem,seval,pz1 hpP0,f59];apply z;simp only [zaa];refine zan fun _ z=>?_;simp only [go_sem,seval,pz1 hpP0];apply z;refine zau ?_;obtain rfl:=zag h;refine ⟨by simp,?_⟩;simp only [go_sem,seval,zam,zaY,zaW,zak,zaz hpP0,s_x2,s_x41]
  ·replace h:=zaB c45 h;refine zav ?_
   try simp only [zaa]
   refine zah ?_;obtain ⟨x61,h62,h⟩:=bind_some h;obtain ⟨f63,h⟩:=zaM h;have f64:x41.1.length+1<=1073741824:=by first | omega | (simp only [List.length_append,List.length_cons,List.length_nil] at f63 ⊢;omega)
   have f65:x41.1.length<=1073741823:=by first | omega | (simp only [List.length_append,List.length_cons,List.length_nil] at f63 ⊢;omega)
   refine zaO (tbl:=[0,1,0,4,12,31,63,127]) (ord:=[(2,0),(3,0),(0,0),(1,1),(4,0),(5,0),(6,0),(7,0)]) 29 rfl (by kernel_rfl) (by kernel_rfl) fun _ z=>?_;simp only [go_sem,seval,c45];refine zaT (zcq n x43.2 (1:Int) _ h62 _ _ _ P0 (by simp only [go_sem,↓reduceIte,hg3,hg5])) rfl ?_;simp only [go_sem,seval,pz1 hpP0,f64];apply z;simp only [zaa];refine zan fun _ z=>?_;simp only [go_sem,seval,pz1 hpP0];apply z;refine zau ?_;obtain rfl:=zag h;refine ⟨by simp,?_⟩;simp only [go_sem,seval,zam,zaY,zaW,zak,zaz hpP0,s_x2,s_x41]
def zlY (f:Str->Option (zab × Int × Int)):Prop:=∀a0 r,f a0=some r->∀(q:Pa) (m:M) (vs:List V),vs.map V.weak1=[.list .none (zfF a0)]/\m.gl 2=.eptr [(cA cS zcz)] 0 0/\m.gl 3=.eptr [(cA cS zaZ)] 0 0/\m.gl 5=.eptr [(cA (cA cS) zbq)] 0 0->SC Tryz.prog 36 vs q m (fun v m'=>v=.tup [.agg ((zab.C r.1)),.lit (.int .i64 r.2.1),.lit (.int .i64 r.2.2)]/\m'=m)
theorem zlu (n:Nat):zlY (zkj n):=by
 rintro a0 r h q m vs ⟨hv,hg2,hg3,hg5⟩;refine SC.weak ?_;rw [hv];refine SC_w Tryz.func36 rfl (fun xs w=>Tryz.call36 xs w) Tryz.ntmps36 (by kernel_rfl) Tryz.results36 ?_;unfold zkj at h;refine zan fun _ z=>?_;simp only [go_sem,Nat.reduceAdd];apply z;refine zah ?_;obtain ⟨x2,h3,h⟩:=bind_some h;refine zao fun _ z=>?_;simp only [go_sem,seval];refine SC.by_ (zl5 n a0 _ h3 _ _ _ (by simp only [go_sem,hg2])) ?_;simp only [go_sem,seval];apply z;refine zah ?_;refine zan fun _ z=>?_;simp only [go_sem,seval];apply z;refine zbn (x2.2.1 != (0:Int)) (fun c4=>?_) (fun c4=>?_)
 ·replace h:=zaA c4 h;refine zan fun _ z=>?_;simp only [go_sem,seval,c4];apply z;refine zau ?_
  try simp only [zat]
  obtain rfl:=zag h;refine ⟨by simp,?_⟩;simp only [go_sem,seval,zam,zaY,zak]
 ·replace h:=zaB c4 h;refine zav ?_
  try simp only [zaa]
  refine zan fun _ z=>?_;simp only [go_sem,seval,c4];apply z;refine zah ?_;obtain ⟨x6,h8,h⟩:=bind_some h;refine zao fun _ z=>?_;simp only [go_sem,seval];refine SC.mono (zb2 (zac.mk x2.1 (0:Int) (0:Int) (0:Int) (0:Int)) (1:Int) _ h8 _ _ _ (16::q) (by simp only [go_sem,↓reduceIte])) ?_;rintro _ _ ⟨o_x6,j_x6,s_x6,rfl,rfl⟩;replace s_x6:q <:+ o_x6:=List.IsSuffix.trans (by simp only [go_sem]) s_x6;simp only [go_sem,seval];apply z;refine zah ?_;refine zaG ?_;obtain ⟨y12,hy12,h⟩:=bind_some h;refine zbu [] [] rfl (fun c E' m'=>∃v10 v11,zfA n c v10 v11=some y12/\E' 2=.ptr (0::q) 0/\E' 8=.ptr (16::q) 0/\E' 9=.ptr (20::q) 0/\m'.blk (0::q)=some ([.lit (.int .i64 (0:Int)),.lit (.int .i64 (0:Int)),.lit (.string (bs [])),.lit (.int .u32 (0:Int)),.list .self ([].map zab.C)])/\m'.blk (16::q)=some ((zac.C v10))/\m'.blk (20::q)=some ([.lit (.int .i64 v11.zbA),.lit (.int .i64 v11.At_),.lit (.string (bs v11.zbr)),.lit (.int .u32 v11.Num_),.list .self (v11.zax.map zab.C)])/\m'.gl=m.gl/\m.back q m'=m) n ⟨x6.2,x6.1,hy12,?_⟩ ?_
  ·simp only [go_sem,seval,zam,zaY,zaW,zak,s_x6]
  rintro i9 c13 E14 m15 ⟨v10,v11,hy12,e16⟩ _
  rcases c13 with _ | c13
  ·exact absurd hy12 (by rw [zfA];exact fun e=>nomatch e)
  rw [zfA] at hy12;refine zah ?_;refine zah ?_;obtain ⟨y17,hy17,hy12⟩:=bind_some hy12;refine zbf 11 [] [] rfl (fun E' m'=>E' 2=.ptr (0::q) 0/\E' 8=.ptr (16::q) 0/\E' 9=.ptr (20::q) 0/\E' 36=.lit (.bool y17)/\m'.blk (0::q)=some ([.lit (.int .i64 (0:Int)),.lit (.int .i64 (0:Int)),.lit (.string (bs [])),.lit (.int .u32 (0:Int)),.list .self ([].map zab.C)])/\m'.blk (16::q)=some ((zac.C v10))/\m'.blk (20::q)=some ([.lit (.int .i64 v11.zbA),.lit (.int .i64 v11.At_),.lit (.string (bs v11.zbr)),.lit (.int .u32 v11.Num_),.list .self (v11.zax.map zab.C)])/\m'.gl=m.gl/\m.back q m'=m) ?_ ?_
  ·rcases za9 (v10.e_ == (0:Int)) with c18 | c18
   ·replace hy17:=zaA c18 hy17;obtain ⟨x19,h20,hy17⟩:=bind_some hy17;refine zao fun _ z=>?_;simp only [go_sem,seval,c18,e16];refine SC.by_ (zbU v10 _ h20 _ _ _ (16::q) (by simp only [go_sem,e16])) ?_;simp only [go_sem,seval];apply z;obtain rfl:=zag hy17;refine ⟨by decide,?_⟩;simp only [go_sem,seval,e16]
   ·replace hy17:=zaB c18 hy17;refine zao fun _ z=>?_;simp only [go_sem,seval,c18,e16];apply z;obtain rfl:=zag hy17;refine ⟨by decide,?_⟩;simp only [go_sem,seval,e16]
  ·intro E21 m22 e23 _;simp only [zaa];refine zbF y17 (by simp only [go_sem,e23]) (fun c24=>?_) (fun c24=>?_)
   ·replace hy12:=zaA c24 hy12;refine zav ?_
    try simp only [zaa]
    refine zaG ?_;obtain ⟨x25,h26,hy12⟩:=bind_some hy12;obtain ⟨f27,hy12⟩:=zaM hy12;have f28:v11.zax.length+1<=1073741824:=by first | omega | (simp only [List.length_append,List.length_cons,List.length_nil] at f27 ⊢;omega)
    have f29:v11.zax.length<=1073741823:=by first | omega | (simp only [List.length_append,List.length_cons,List.length_nil] at f27 ⊢;omega)
    refine zaO (tbl:=[0,1,0,4,12,31,63,127]) (ord:=[(2,0),(3,0),(0,0),(1,1),(4,0),(5,0),(6,0),(7,0)]) 19 rfl (by kernel_rfl) (by kernel_rfl) fun _ z=>?_;simp only [go_sem,seval,e23];refine zaT (zhi n v10 _ h26 _ _ _ (16::q) (by simp only [go_sem,e23,hg3,hg5])) rfl ?_;simp only [go_sem,seval,f28,e23];apply z;simp only [zaa,zaq];refine ⟨c13,Nat.lt_succ_self _,x25.2,({ v11 with zax:=(v11.zax++[x25.1]) }:zab),hy12,?_⟩;simp only [go_sem,seval,zam,zaY,zaW,e23]
   ·replace hy12:=zaB c24 hy12;refine zbG ?_
    try simp only [zaS,zaK,↓reduceIte,zaa]
    obtain rfl:=zag hy12;refine zah ?_;refine zan fun _ z=>?_;simp only [go_sem,seval,e23];apply z;refine zbn (v10.e_ != (0:Int)) (fun c30=>?_) (fun c30=>?_)
    ·replace h:=zaA c30 h;refine zah ?_;refine zaO (tbl:=[0,0,2,6,14,0,32,96,224,1,543,2047]) (ord:=[(0,0),(9,0),(1,0),(2,0),(3,0),(4,1),(5,0),(6,0),(7,0),(8,1),(10,0),(11,0)]) 40 rfl (by kernel_rfl) (by kernel_rfl) fun _ z=>?_;simp only [go_sem,seval,c30,e23];apply z;simp only [zaa];refine zau ?_
     try simp only [zat]
     obtain rfl:=zag h;refine ⟨by simp,?_⟩;simp only [go_sem,seval,zam,zaY,e23]
    ·replace h:=zaB c30 h;refine zav ?_
     try simp only [zaa]
     refine zan fun _ z=>?_;simp only [go_sem,seval,c30,e23];apply z;refine zau ?_;obtain rfl:=zag h;refine ⟨by simp,?_⟩;simp only [go_sem,seval,zam,e23]
end Go.Proofs.YtldnmmnnohnpkaaGreatDoor.Abs
