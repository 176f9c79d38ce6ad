/-
 Walks: each function does what its model says. Written by a program of mine (gen.py) for this claim.
-/
import Derived.Test.YtldnmmnnohnpkaaGreatDoorFpGMm
import Derived.Test.YtldnmmnnohnpkaaGreatDoorFpFacts
import Derived.Test.YtldnmmnnohnpkaaGreatDoorFpH1
import Derived.Test.YtldnmmnnohnpkaaGreatDoorFpH4
namespace Go.Proofs.YtldnmmnnohnpkaaGreatDoor.Abs
open Go.RowKit
set_option linter.unusedVariables false
set_option maxRecDepth 10000
def znZ (f:Int->Option Bool):Prop:=∀a0 r,f a0=some r->∀(q:Pa) (m:M) (vs:List V),vs.map V.weak1=[.lit (.int .u8 a0)]->SC Tryz.prog 138 vs q m (fun v m'=>v=.lit (.bool r)/\m'=m)
theorem znb:znZ (zjL):=by
 intro a0 r h q m vs hv;refine SC.weak ?_;rw [hv];refine SC_w Tryz.func138 rfl (fun xs w=>Tryz.call138 xs w) Tryz.ntmps138 (by kernel_rfl) Tryz.results138 ?_;unfold zjL at h;refine zao fun _ z=>?_;simp only [go_sem];apply z;refine zai ?_;obtain ⟨y1,hy1,h⟩:=bind_some h;refine zbh 16 [] [] rfl (fun E' m'=>E' 2=.lit (.bool y1)/\m'.gl=m.gl/\m.back q m'=m) ?_ ?_
 ·rcases zbf (a0 == (32:Int)) with c2 | c2
  ·replace hy1:=zaK c2 hy1;refine zat fun _ z=>?_;simp only [go_sem,seval,c2];apply z;obtain rfl:=zah hy1;refine ⟨by decide,?_⟩;simp only [go_sem,↓reduceIte,zak]
  ·replace hy1:=zaL c2 hy1
   rcases zbf (a0 == (9:Int)) with c3 | c3
   ·replace hy1:=zaK c3 hy1;refine zat fun _ z=>?_;simp only [go_sem,seval,c2,c3];apply z;obtain rfl:=zah hy1;refine ⟨by decide,?_⟩;simp only [go_sem,↓reduceIte,zak]
   ·replace hy1:=zaL c3 hy1
    rcases zbf (a0 == (13:Int)) with c4 | c4
    ·replace hy1:=zaK c4 hy1;refine zat fun _ z=>?_;simp only [go_sem,seval,c2,c3,c4];apply z;obtain rfl:=zah hy1;refine ⟨by decide,?_⟩;simp only [go_sem,↓reduceIte,zak]
    ·replace hy1:=zaL c4 hy1;refine zat fun _ z=>?_;simp only [go_sem,seval,c2,c3,c4];apply z;obtain rfl:=zah hy1;refine ⟨by decide,?_⟩;simp only [go_sem,↓reduceIte,zak]
 ·intro E5 m6 e7 _;simp only [zad];refine zaw ?_;obtain rfl:=zah h;refine ⟨by simp,?_⟩;simp only [go_sem,e7]
def zgi (f:Str->Str->Option Bool):Prop:=∀a0 a1 r,f a0 a1=some r->∀(q:Pa) (m:M) (vs:List V),vs.map V.weak1=[.lit (.string (bs a0)),.lit (.string (bs a1))]->SC Tryz.prog 180 vs q m (fun v m'=>v=.lit (.bool r)/\m'=m)
theorem zeJ:zgi (zbW):=by
 intro a0 a1 r h q m vs hv;refine SC.weak ?_;rw [hv];refine SC_w Tryz.func180 rfl (fun xs w=>Tryz.call180 xs w) Tryz.ntmps180 (by kernel_rfl) Tryz.results180 ?_;unfold zbW at h;refine zao fun _ z=>?_;simp only [go_sem];apply z;refine zai ?_;obtain ⟨y1,hy1,h⟩:=bind_some h;refine zbh 15 [] [] rfl (fun E' m'=>E' 4=.lit (.bool y1)/\m'.gl=m.gl/\m.back q m'=m) ?_ ?_
 ·rcases zbf (decide ((a1.length:Int)<=(a0.length:Int))) with c2 | c2
  ·replace hy1:=zaK c2 hy1;obtain ⟨⟨f3,f4⟩,hy1⟩:=zaT hy1;refine zat fun _ z=>?_;simp only [go_sem,seval,f3,f4];apply z;obtain rfl:=zah hy1;refine ⟨by decide,?_⟩;simp only [go_sem,↓reduceIte,zak]
  ·replace hy1:=zaL c2 hy1;refine zat fun _ z=>?_;simp only [go_sem,seval,c2];apply z;obtain rfl:=zah hy1;refine ⟨by decide,?_⟩;simp only [go_sem,↓reduceIte,zak]
 ·intro E5 m6 e7 _;simp only [zad];refine zaw ?_;obtain rfl:=zah h;refine ⟨by simp,?_⟩;simp only [go_sem,e7]
def zkm (f:Str->Str->Option Bool):Prop:=∀a0 a1 r,f a0 a1=some r->∀(q:Pa) (m:M) (vs:List V),vs.map V.weak1=[.lit (.string (bs a0)),.lit (.string (bs a1))]->SC Tryz.prog 139 vs q m (fun v m'=>v=.lit (.bool r)/\m'=m)
theorem zg0:zkm (zeu):=by
 intro a0 a1 r h q m vs hv;refine SC.weak ?_;rw [hv];refine SC_w Tryz.func139 rfl (fun xs w=>Tryz.call139 xs w) Tryz.ntmps139 (by kernel_rfl) Tryz.results139 ?_;unfold zeu at h;refine zao fun _ z=>?_;simp only [go_sem];apply z;refine zai ?_;obtain ⟨x1,h2,h⟩:=bind_some h;refine zat fun _ z=>?_;simp only [go_sem,seval];refine SC.by_ (zeJ a0 a1 _ h2 _ _ _ (by simp only [go_sem])) ?_;simp only [go_sem,seval];apply z;refine zaw ?_;obtain rfl:=zah h;refine ⟨by simp,?_⟩;simp only [go_sem,↓reduceIte,zak]
def zf2 (f:Str->Int->Option Int):Prop:=∀a0 a1 r,f a0 a1=some r->∀(q:Pa) (m:M) (vs:List V),vs.map V.weak1=[.lit (.string (bs a0)),.lit (.int .u8 a1)]->SC Tryz.prog 210 vs q m (fun v m'=>v=.lit (.int .i64 r)/\m'=m)
theorem zfO:zf2 zeQ:=by
 intro a0 a1 r h q m vs hv;refine SC.weak ?_;rw [hv];obtain rfl:=zah h;intro c xs w h1 h2 h3;obtain ⟨x,xs,rfl,k1,k2⟩:=h2.uncons;obtain ⟨y,rfl,k3⟩:=k2.inv_one;obtain rfl:=k1.inv_lit;obtain rfl:=k3.inv_lit;refine .inr ⟨.int .i64 (Lib.indexByte a0 a1.toNat.toUInt8),w,?_,_,c,_,m,rfl,⟨rfl,rfl⟩,h1,.refl q c m w,.lit .nil⟩;rw [run_callFunc_extern (fn:=Tryz.f210) (e:=Extern.BytealgIndexByte.indexByte) Tryz.func210 (by kernel_rfl) (by kernel_rfl) (by kernel_rfl) (by rfl)];have:=Lib.run_indexByteString (P:=Tryz.prog) (bs a0) a1 w;rw [this];rfl
def zgh (f:Str->Int->Option Int):Prop:=∀a0 a1 r,f a0 a1=some r->∀(q:Pa) (m:M) (vs:List V),vs.map V.weak1=[.lit (.string (bs a0)),.lit (.int .u8 a1)]->SC Tryz.prog 181 vs q m (fun v m'=>v=.lit (.int .i64 r)/\m'=m)
theorem zf8:zgh (zea):=by
 intro a0 a1 r h q m vs hv;refine SC.weak ?_;rw [hv];refine SC_w Tryz.func181 rfl (fun xs w=>Tryz.call181 xs w) Tryz.ntmps181 (by kernel_rfl) Tryz.results181 ?_;unfold zea at h;refine zao fun _ z=>?_;simp only [go_sem];apply z;refine zai ?_;obtain ⟨x1,h2,h⟩:=bind_some h;refine zat fun _ z=>?_;simp only [go_sem,seval];refine SC.by_ (zfO a0 a1 _ h2 _ _ _ (by simp only [go_sem])) ?_;simp only [go_sem,seval];apply z;refine zaw ?_;obtain rfl:=zah h;refine ⟨by simp,?_⟩;simp only [go_sem,↓reduceIte,zak]
def zkl (f:Str->Int->Option Int):Prop:=∀a0 a1 r,f a0 a1=some r->∀(q:Pa) (m:M) (vs:List V),vs.map V.weak1=[.lit (.string (bs a0)),.lit (.int .u8 a1)]->SC Tryz.prog 140 vs q m (fun v m'=>v=.lit (.int .i64 r)/\m'=m)
theorem zfH:zkl (zet):=by
 intro a0 a1 r h q m vs hv;refine SC.weak ?_;rw [hv];refine SC_w Tryz.func140 rfl (fun xs w=>Tryz.call140 xs w) Tryz.ntmps140 (by kernel_rfl) Tryz.results140 ?_;unfold zet at h;refine zao fun _ z=>?_;simp only [go_sem];apply z;refine zai ?_;obtain ⟨x1,h2,h⟩:=bind_some h;refine zat fun _ z=>?_;simp only [go_sem,seval];refine SC.by_ (zf8 a0 a1 _ h2 _ _ _ (by simp only [go_sem])) ?_;simp only [go_sem,seval];apply z;refine zaw ?_;obtain rfl:=zah h;refine ⟨by simp,?_⟩;simp only [go_sem,↓reduceIte,zak]
def zoZ (f:Str->Int->Option Int):Prop:=∀a0 a1 r,f a0 a1=some r->∀(q:Pa) (m:M) (vs:List V),vs.map V.weak1=[.lit (.string (bs a0)),.lit (.int .i64 a1)]->SC Tryz.prog 90 vs q m (fun v m'=>v=.lit (.int .i64 r)/\m'=m)
theorem zly (n:Nat):zoZ (zj2 n):=by
 intro a0 a1 r h q m vs hv;refine SC.weak ?_;rw [hv];refine SC_w Tryz.func90 rfl (fun xs w=>Tryz.call90 xs w) Tryz.ntmps90 (by kernel_rfl) Tryz.results90 ?_;unfold zj2 at h;refine zao fun _ z=>?_;simp only [go_sem];apply z;refine zai ?_;refine zaM ?_;obtain ⟨y3,hy3,h⟩:=bind_some h;refine zbj [] [] rfl (fun c E' m'=>∃v2,zfz a0 c v2=some y3/\E' 0=.lit (.string (bs a0))/\E' 1=.lit (.int .i64 v2)/\m'.gl=m.gl/\m.back q m'=m) n ⟨a1,hy3,?_⟩ ?_
 ·simp only [go_sem,seval,zak]
 rintro i1 c4 E5 m6 ⟨v2,hy3,e7⟩ _
 rcases c4 with _ | c4
 ·exact absurd hy3 (by rw [zfz];exact fun e=>nomatch e)
 rw [zfz] at hy3;refine zai ?_;refine zao fun _ z=>?_;simp only [go_sem,seval,e7];apply z;refine zcb (decide (v2<(a0.length:Int))) (by simp only [go_sem,↓reduceIte]) (fun c8=>?_) (fun c8=>?_)
 ·replace hy3:=zaK c8 hy3;refine zaA ?_
  try simp only [zad]
  refine zaM ?_;refine zaM ?_;refine zai ?_;obtain ⟨x9,h14,hy3⟩:=bind_some hy3;obtain ⟨f11,f12,f13⟩:=zaD h14;obtain ⟨x10,h15,hy3⟩:=bind_some hy3;refine zat fun _ z=>?_;simp only [go_sem,seval,f11,f12,f13,e7];refine SC.by_ (znb (x9.toNat:Int) _ h15 _ _ _ (by simp only [go_sem])) ?_;simp only [go_sem,seval];apply z;refine zbN x10 (fun c16=>?_) (fun c16=>?_)
  ·replace hy3:=zaK c16 hy3;refine zc1 fun _ z=>?_;simp only [go_sem,seval,c16,e7];apply z;simp only [zad,zau];refine ⟨c4,Nat.lt_succ_self _,(IntKind.i64.wrap (v2+(1:Int))),hy3,?_⟩;simp only [go_sem,seval,e7]
  ·replace hy3:=zaL c16 hy3;refine zai ?_;obtain ⟨⟨f18,f19⟩,hy3⟩:=zaT hy3;obtain ⟨x17,h20,hy3⟩:=bind_some hy3;refine zat fun _ z=>?_;simp only [go_sem,seval,f11,c16,f19,e7];refine SC.by_ (zg0 (a0.drop v2.toNat) ([47,47]:Str) _ h20 _ _ _ (by simp only [go_sem])) ?_;simp only [go_sem,seval];apply z;refine zbN x17 (fun c21=>?_) (fun c21=>?_)
   ·replace hy3:=zaK c21 hy3;refine zai ?_;obtain ⟨⟨f23,f24⟩,hy3⟩:=zaT hy3;obtain ⟨x22,h25,hy3⟩:=bind_some hy3;refine zat fun _ z=>?_;simp only [go_sem,seval,f11,f19,c21,e7];refine SC.by_ (zfH (a0.drop v2.toNat) (10:Int) _ h25 _ _ _ (by simp only [go_sem])) ?_;simp only [go_sem,seval];apply z;refine zai ?_;refine zao fun _ z=>?_;simp only [go_sem,seval];apply z;refine zcb (decide (x22<(0:Int))) (by simp only [go_sem,↓reduceIte]) (fun c26=>?_) (fun c26=>?_)
    ·replace hy3:=zaK c26 hy3;refine zao fun _ z=>?_;simp only [go_sem,seval,c26,e7];apply z;refine zaw ?_
     try simp only [zaE,zaZ]
     obtain rfl:=zah hy3;simp only [Sum.elim_inr] at h;obtain rfl:=zah h;refine ⟨by simp,?_⟩;simp only [go_sem,↓reduceIte,e7]
    ·replace hy3:=zaL c26 hy3;refine zaA ?_
     try simp only [zad]
     refine zc1 fun _ z=>?_;simp only [go_sem,seval,c26,e7];apply z;simp only [zad,zau];refine ⟨c4,Nat.lt_succ_self _,(IntKind.i64.wrap (v2+x22)),hy3,?_⟩;simp only [go_sem,seval,e7]
   ·replace hy3:=zaL c21 hy3;refine zao fun _ z=>?_;simp only [go_sem,seval,c21,e7];apply z;refine zaw ?_
    try simp only [zaE,zaZ]
    obtain rfl:=zah hy3;simp only [Sum.elim_inr] at h;obtain rfl:=zah h;refine ⟨by simp,?_⟩;simp only [go_sem,↓reduceIte,e7]
 ·replace hy3:=zaL c8 hy3;refine zbK ?_
  try simp only [zaW,zaQ,↓reduceIte,zad]
  obtain rfl:=zah hy3;simp only [Sum.elim_inl] at h;refine zao fun _ z=>?_;simp only [go_sem,seval,c8,e7];apply z;refine zaw ?_;obtain rfl:=zah h;refine ⟨by simp,?_⟩;simp only [go_sem,↓reduceIte,e7]
def znd (f:Int->Option Bool):Prop:=∀a0 r,f a0=some r->∀(q:Pa) (m:M) (vs:List V),vs.map V.weak1=[.lit (.int .u8 a0)]->SC Tryz.prog 142 vs q m (fun v m'=>v=.lit (.bool r)/\m'=m)
theorem ziZ:znd (zhg):=by
 intro a0 r h q m vs hv;refine SC.weak ?_;rw [hv];refine SC_w Tryz.func142 rfl (fun xs w=>Tryz.call142 xs w) Tryz.ntmps142 (by kernel_rfl) Tryz.results142 ?_;unfold zhg at h;refine zao fun _ z=>?_;simp only [go_sem];apply z;refine zai ?_;obtain ⟨y1,hy1,h⟩:=bind_some h;refine zbh 12 [] [] rfl (fun E' m'=>E' 2=.lit (.bool y1)/\m'.gl=m.gl/\m.back q m'=m) ?_ ?_
 ·rcases zbf (decide ((97:Int)<=a0)) with c2 | c2
  ·replace hy1:=zaK c2 hy1
   rcases zbf (decide (a0<=(122:Int))) with c3 | c3
   ·replace hy1:=zaK c3 hy1;refine zat fun _ z=>?_;simp only [go_sem,seval,c2,c3];apply z;obtain rfl:=zah hy1;refine ⟨by decide,?_⟩;simp only [go_sem,↓reduceIte,zak]
   ·replace hy1:=zaL c3 hy1;refine zat fun _ z=>?_;simp only [go_sem,seval,c2,c3];apply z;obtain rfl:=zah hy1;refine ⟨by decide,?_⟩;simp only [go_sem,↓reduceIte,zak]
  ·replace hy1:=zaL c2 hy1;refine zat fun _ z=>?_;simp only [go_sem,seval,c2];apply z;obtain rfl:=zah hy1;refine ⟨by decide,?_⟩;simp only [go_sem,↓reduceIte,zak]
 ·intro E4 m5 e6 _;simp only [zad];refine zaw ?_;obtain rfl:=zah h;refine ⟨by simp,?_⟩;simp only [go_sem,e6]
def zn0 (f:Int->Option Bool):Prop:=∀a0 r,f a0=some r->∀(q:Pa) (m:M) (vs:List V),vs.map V.weak1=[.lit (.int .u8 a0)]->SC Tryz.prog 143 vs q m (fun v m'=>v=.lit (.bool r)/\m'=m)
theorem zld:zn0 (ziB):=by
 intro a0 r h q m vs hv;refine SC.weak ?_;rw [hv];refine SC_w Tryz.func143 rfl (fun xs w=>Tryz.call143 xs w) Tryz.ntmps143 (by kernel_rfl) Tryz.results143 ?_;unfold ziB at h;refine zao fun _ z=>?_;simp only [go_sem];apply z;refine zai ?_;obtain ⟨y1,hy1,h⟩:=bind_some h;refine zbh 8 [] [] rfl (fun E' m'=>E' 2=.lit (.bool y1)/\m'.gl=m.gl/\m.back q m'=m) ?_ ?_
 ·rcases zbf (decide ((48:Int)<=a0)) with c2 | c2
  ·replace hy1:=zaK c2 hy1;refine zat fun _ z=>?_;simp only [go_sem,seval,c2];apply z;obtain rfl:=zah hy1;refine ⟨by decide,?_⟩;simp only [go_sem,↓reduceIte,zak]
  ·replace hy1:=zaL c2 hy1;refine zat fun _ z=>?_;simp only [go_sem,seval,c2];apply z;obtain rfl:=zah hy1;refine ⟨by decide,?_⟩;simp only [go_sem,↓reduceIte,zak]
 ·intro E3 m4 e5 _;simp only [zad];refine zaw ?_;obtain rfl:=zah h;refine ⟨by simp,?_⟩;simp only [go_sem,e5]
def zoY (f:Str->Option Str):Prop:=∀a0 r,f a0=some r->∀(q:Pa) (m:M) (vs:List V),vs.map V.weak1=[.lit (.string (bs a0))]->SC Tryz.prog 141 vs q m (fun v m'=>v=.lit (.string (bs r))/\m'=m)
theorem znV (n:Nat):zoY (zkH n):=by
 intro a0 r h q m vs hv;refine SC.weak ?_;rw [hv];refine SC_w Tryz.func141 rfl (fun xs w=>Tryz.call141 xs w) Tryz.ntmps141 (by kernel_rfl) Tryz.results141 ?_;unfold zkH at h;refine zao fun _ z=>?_;simp only [go_sem];apply z;refine zai ?_;refine zao fun _ z=>?_;simp only [go_sem,seval];apply z;refine zaM ?_;obtain ⟨y3,hy3,h⟩:=bind_some h;refine zbj [] [] rfl (fun c E' m'=>∃v2,zfM a0 c v2=some y3/\E' 0=.lit (.string (bs a0))/\E' 5=.lit (.int .i64 (a0.length:Int))/\E' 6=.lit (.int .i64 v2)/\m'.gl=m.gl/\m.back q m'=m) n ⟨(0:Int),hy3,?_⟩ ?_
 ·simp only [go_sem,seval,zak]
 rintro i1 c4 E5 m6 ⟨v2,hy3,e7⟩ _
 rcases c4 with _ | c4
 ·exact absurd hy3 (by rw [zfM];exact fun e=>nomatch e)
 rw [zfM] at hy3;refine zao fun _ z=>?_;simp only [go_sem,e7];apply z;refine zai ?_;refine zcb (decide (v2<(a0.length:Int))) (by simp only [go_sem,↓reduceIte]) (fun c8=>?_) (fun c8=>?_)
 ·replace hy3:=zaK c8 hy3;refine zaA ?_
  try simp only [zad]
  refine zai ?_;refine zaM ?_;refine zao fun _ z=>?_;simp only [go_sem,seval,c8,e7];apply z;refine zai ?_;obtain ⟨y9,hy9,hy3⟩:=bind_some hy3;refine zbh 15 [] [] rfl (fun E' m'=>E' 0=.lit (.string (bs a0))/\E' 3=.lit (.int .i64 v2)/\E' 5=.lit (.int .i64 (a0.length:Int))/\E' 6=.lit (.int .i64 v2)/\E' 20=.lit (.bool y9)/\m'.gl=m.gl/\m.back q m'=m) ?_ ?_
  ·obtain ⟨x10,h15,hy9⟩:=bind_some hy9;obtain ⟨f12,f13,f14⟩:=zaD h15;obtain ⟨x11,h16,hy9⟩:=bind_some hy9
   rcases zbf (!x11) with c17 | c17
   ·replace hy9:=zaK c17 hy9;obtain ⟨x18,h19,hy9⟩:=bind_some hy9;refine zat fun _ z=>?_;simp only [go_sem,seval,f12,f14,e7];refine SC.by_ (ziZ (x10.toNat:Int) _ h16 _ _ _ (by simp only [go_sem])) ?_;simp only [go_sem,seval,f12,f14,c17,e7];refine SC.by_ (zld (x10.toNat:Int) _ h19 _ _ _ (by simp only [go_sem])) ?_;simp only [go_sem,seval];apply z;obtain rfl:=zah hy9;refine ⟨by decide,?_⟩;simp only [go_sem,seval,e7]
   ·replace hy9:=zaL c17 hy9;refine zat fun _ z=>?_;simp only [go_sem,seval,f12,f14,e7];refine SC.by_ (ziZ (x10.toNat:Int) _ h16 _ _ _ (by simp only [go_sem])) ?_;simp only [go_sem,seval,c17];apply z;obtain rfl:=zah hy9;refine ⟨by decide,?_⟩;simp only [go_sem,seval,e7]
  ·intro E20 m21 e22 _;simp only [zad];refine zcb y9 (by simp only [go_sem,e22]) (fun c23=>?_) (fun c23=>?_)
   ·replace hy3:=zaK c23 hy3;refine zai ?_;obtain ⟨⟨f24,f25⟩,hy3⟩:=zaT hy3;refine zat fun _ z=>?_;simp only [go_sem,seval,f24,f25,e22];apply z;refine zaw ?_
    try simp only [zaE,zaZ]
    obtain rfl:=zah hy3;simp only [Sum.elim_inr] at h;obtain rfl:=zah h;refine ⟨by simp,?_⟩;simp only [go_sem,↓reduceIte,e22]
   ·replace hy3:=zaL c23 hy3;refine zaA ?_
    try simp only [zad,zau]
    refine zat fun _ z=>?_;simp only [go_sem,seval,e22];apply z;refine ⟨c4,Nat.lt_succ_self _,(IntKind.i64.wrap (v2+(1:Int))),hy3,?_⟩;simp only [go_sem,seval,e22]
 ·replace hy3:=zaL c8 hy3;refine zbK ?_
  try simp only [zaW,zaQ,↓reduceIte,zad]
  obtain rfl:=zah hy3;simp only [Sum.elim_inl] at h;refine zao fun _ z=>?_;simp only [go_sem,seval,c8,e7];apply z;refine zaw ?_;obtain rfl:=zah h;refine ⟨by simp,?_⟩;simp only [go_sem,↓reduceIte,e7]
def zgj (f:Str->Str->Option (Str × Bool)):Prop:=∀a0 a1 r,f a0 a1=some r->∀(q:Pa) (m:M) (vs:List V),vs.map V.weak1=[.lit (.string (bs a0)),.lit (.string (bs a1))]->SC Tryz.prog 211 vs q m (fun v m'=>v=.tup [.lit (.string (bs r.1)),.lit (.bool r.2)]/\m'=m)
theorem zf9:zgj (zcT):=by
 intro a0 a1 r h q m vs hv;refine SC.weak ?_;rw [hv];refine SC_w Tryz.func211 rfl (fun xs w=>Tryz.call211 xs w) Tryz.ntmps211 (by kernel_rfl) Tryz.results211 ?_;unfold zcT at h;refine zao fun _ z=>?_;simp only [go_sem,Nat.reduceAdd];apply z;refine zai ?_;refine zai ?_;obtain ⟨x1,h2,h⟩:=bind_some h;refine zat fun _ z=>?_;simp only [go_sem,seval];refine SC.by_ (zeJ a0 a1 _ h2 _ _ _ (by simp only [go_sem])) ?_;simp only [go_sem,seval];apply z;refine zbN (!x1) (fun c3=>?_) (fun c3=>?_)
 ·replace h:=zaK c3 h;refine zao fun _ z=>?_;simp only [go_sem,seval,c3];apply z;refine zaw ?_
  try simp only [zaE]
  obtain rfl:=zah h;refine ⟨by simp,?_⟩;simp only [go_sem,seval,zak]
 ·replace h:=zaL c3 h;refine zaA ?_
  try simp only [zad]
  refine zai ?_;obtain ⟨⟨f4,f5⟩,h⟩:=zaT h;refine zat fun _ z=>?_;simp only [go_sem,seval,c3,f4,f5];apply z;refine zaw ?_;obtain rfl:=zah h;refine ⟨by simp,?_⟩;simp only [go_sem,seval,zak]
def zkn (f:Str->Str->Option (Str × Bool)):Prop:=∀a0 a1 r,f a0 a1=some r->∀(q:Pa) (m:M) (vs:List V),vs.map V.weak1=[.lit (.string (bs a0)),.lit (.string (bs a1))]->SC Tryz.prog 182 vs q m (fun v m'=>v=.tup [.lit (.string (bs r.1)),.lit (.bool r.2)]/\m'=m)
theorem zj7:zkn (zeT):=by
 intro a0 a1 r h q m vs hv;refine SC.weak ?_;rw [hv];refine SC_w Tryz.func182 rfl (fun xs w=>Tryz.call182 xs w) Tryz.ntmps182 (by kernel_rfl) Tryz.results182 ?_;unfold zeT at h;refine zao fun _ z=>?_;simp only [go_sem,Nat.reduceAdd];apply z;refine zai ?_;obtain ⟨x1,h2,h⟩:=bind_some h;refine zat fun _ z=>?_;simp only [go_sem,seval];refine SC.by_ (zf9 a0 a1 _ h2 _ _ _ (by simp only [go_sem])) ?_;simp only [go_sem,seval];apply z;refine zaw ?_;obtain rfl:=zah h;refine ⟨by simp,?_⟩;simp only [go_sem,seval,zak]
def znW (f:Str->Option (Int × Bool)):Prop:=∀a0 r,f a0=some r->∀(q:Pa) (m:M) (vs:List V),vs.map V.weak1=[.lit (.string (bs a0))]->SC Tryz.prog 144 vs q m (fun v m'=>v=.tup [.lit (.int .u32 r.1),.lit (.bool r.2)]/\m'=m)
theorem zna (n:Nat):znW (zjK n):=by
 intro a0 r h q m vs hv;refine SC.weak ?_;rw [hv];refine SC_w Tryz.func144 rfl (fun xs w=>Tryz.call144 xs w) Tryz.ntmps144 (by kernel_rfl) Tryz.results144 ?_;unfold zjK at h;refine zao fun _ z=>?_;simp only [go_sem,Nat.reduceAdd];apply z;refine zao fun _ z=>?_;simp only [go_sem,Nat.reduceAdd];apply z;refine zai ?_;refine zai ?_;obtain ⟨x1,h2,h⟩:=bind_some h;refine zat fun _ z=>?_;simp only [go_sem,seval];refine SC.by_ (zj7 a0 ([48,120]:Str) _ h2 _ _ _ (by simp only [go_sem])) ?_;simp only [go_sem,seval];apply z;refine zao fun _ z=>?_;simp only [go_sem,seval];apply z;refine zbN x1.2 (fun c3=>?_) (fun c3=>?_)
 ·replace h:=zaK c3 h;refine zat fun _ z=>?_;simp only [go_sem,seval,c3];apply z;refine zao fun _ z=>?_;simp only [go_sem,Nat.reduceAdd];apply z;refine zai ?_;refine zao fun _ z=>?_;simp only [go_sem,seval];apply z;refine zaM ?_;obtain ⟨y7,hy7,h⟩:=bind_some h;refine zbj [] [] rfl (fun c E' m'=>∃v5 v6,zfy x1 c v5 v6=some y7/\E' 0=.lit (.string (bs x1.1))/\E' 4=.lit (.int .i64 (16:Int))/\E' 7=.lit (.int .i64 v5)/\E' 18=.lit (.int .i64 (x1.1.length:Int))/\E' 19=.lit (.int .i64 v6)/\m'.gl=m.gl/\m.back q m'=m) n ⟨(0:Int),(0:Int),hy7,?_⟩ ?_
  ·simp only [go_sem,seval,zak]
  rintro i4 c8 E9 m10 ⟨v5,v6,hy7,e11⟩ _
  rcases c8 with _ | c8
  ·exact absurd hy7 (by rw [zfy];exact fun e=>nomatch e)
  rw [zfy] at hy7;refine zao fun _ z=>?_;simp only [go_sem,e11];apply z;refine zai ?_;refine zcb (decide (v6<(x1.1.length:Int))) (by simp only [go_sem,↓reduceIte]) (fun c12=>?_) (fun c12=>?_)
  ·replace hy7:=zaK c12 hy7;refine zaA ?_
   try simp only [zad]
   refine zai ?_;refine zaM ?_;refine zao fun _ z=>?_;simp only [go_sem,seval,c12,e11];apply z;refine zai ?_;obtain ⟨⟨f15,f16⟩,hy7⟩:=zaT hy7;obtain ⟨x13,h20,hy7⟩:=bind_some hy7;obtain ⟨f17,f18,f19⟩:=zaD h20;obtain ⟨x14,h21,hy7⟩:=bind_some hy7;refine zaU (tbl:=[0,1,0,0,12,31,63]) (ord:=[(0,0),(1,0),(2,0),(3,0),(4,0),(5,0),(6,0)]) 10 rfl (by kernel_rfl) (by kernel_rfl) fun _ z=>?_;simp only [go_sem,seval,Int.reduceToNat,f15,f17,f19,e11];refine zaR (zfH (([48,49,50,51,52,53,54,55,56,57,97,98,99,100,101,102]:Str).take (16:Int).toNat) (x13.toNat:Int) _ h21 _ _ _ (by simp only [go_sem,Int.reduceToNat])) rfl ?_;simp only [go_sem,↓reduceIte];apply z;simp only [zad];refine zao fun _ z=>?_;simp only [go_sem,seval,e11];apply z;refine zai ?_;obtain ⟨y22,hy22,hy7⟩:=bind_some hy7;refine zbh 22 [] [] rfl (fun E' m'=>E' 0=.lit (.string (bs x1.1))/\E' 4=.lit (.int .i64 (16:Int))/\E' 7=.lit (.int .i64 (IntKind.i64.wrap ((IntKind.i64.wrap (v5*(16:Int)))+x14)))/\E' 18=.lit (.int .i64 (x1.1.length:Int))/\E' 19=.lit (.int .i64 v6)/\E' 38=.lit (.bool y22)/\m'.gl=m.gl/\m.back q m'=m) ?_ ?_
   ·rcases zbf (decide (x14<(0:Int))) with c23 | c23
    ·replace hy22:=zaK c23 hy22;refine zat fun _ z=>?_;simp only [go_sem,seval,c23];apply z;obtain rfl:=zah hy22;refine ⟨by decide,?_⟩;simp only [go_sem,seval,e11]
    ·replace hy22:=zaL c23 hy22;refine zat fun _ z=>?_;simp only [go_sem,seval,c23];apply z;obtain rfl:=zah hy22;refine ⟨by decide,?_⟩;simp only [go_sem,seval,e11]
   ·intro E24 m25 e26 _;simp only [zad];refine zcb y22 (by simp only [go_sem,e26]) (fun c27=>?_) (fun c27=>?_)
    ·replace hy7:=zaK c27 hy7;refine zao fun _ z=>?_;simp only [go_sem,Nat.reduceAdd];apply z;refine zaw ?_
     try simp only [zaE,zaZ]
     obtain rfl:=zah hy7;simp only [Sum.elim_inr] at h;obtain rfl:=zah h;refine ⟨by simp,?_⟩;simp only [go_sem,seval,e26]
    ·replace hy7:=zaL c27 hy7;refine zaA ?_
     try simp only [zad,zau]
     refine zat fun _ z=>?_;simp only [go_sem,seval,e26];apply z;refine ⟨c8,Nat.lt_succ_self _,(IntKind.i64.wrap ((IntKind.i64.wrap (v5*(16:Int)))+x14)),(IntKind.i64.wrap (v6+(1:Int))),hy7,?_⟩;simp only [go_sem,seval,e26]
  ·replace hy7:=zaL c12 hy7;refine zbK ?_
   try simp only [zaW,zaQ,↓reduceIte,zad]
   obtain rfl:=zah hy7;simp only [Sum.elim_inl] at h;refine zao fun _ z=>?_;simp only [go_sem,seval,c12,e11];apply z;refine zaw ?_;obtain rfl:=zah h;refine ⟨by simp,?_⟩;simp only [go_sem,seval,e11]
 ·replace h:=zaL c3 h;refine zaA ?_
  try simp only [zad]
  refine zao fun _ z=>?_;simp only [go_sem,Nat.reduceAdd,c3];apply z;refine zai ?_;refine zao fun _ z=>?_;simp only [go_sem,seval];apply z;refine zaM ?_;obtain ⟨y31,hy31,h⟩:=bind_some h;refine zbj [] [] rfl (fun c E' m'=>∃v29 v30,zfx a0 c v29 v30=some y31/\E' 0=.lit (.string (bs a0))/\E' 4=.lit (.int .i64 (10:Int))/\E' 7=.lit (.int .i64 v29)/\E' 18=.lit (.int .i64 (a0.length:Int))/\E' 19=.lit (.int .i64 v30)/\m'.gl=m.gl/\m.back q m'=m) n ⟨(0:Int),(0:Int),hy31,?_⟩ ?_
  ·simp only [go_sem,seval,zak]
  rintro i28 c32 E33 m34 ⟨v29,v30,hy31,e35⟩ _
  rcases c32 with _ | c32
  ·exact absurd hy31 (by rw [zfx];exact fun e=>nomatch e)
  rw [zfx] at hy31;refine zao fun _ z=>?_;simp only [go_sem,e35];apply z;refine zai ?_;refine zcb (decide (v30<(a0.length:Int))) (by simp only [go_sem,↓reduceIte]) (fun c36=>?_) (fun c36=>?_)
  ·replace hy31:=zaK c36 hy31;refine zaA ?_
   try simp only [zad]
   refine zai ?_;refine zaM ?_;refine zao fun _ z=>?_;simp only [go_sem,seval,c36,e35];apply z;refine zai ?_;obtain ⟨⟨f39,f40⟩,hy31⟩:=zaT hy31;obtain ⟨x37,h44,hy31⟩:=bind_some hy31;obtain ⟨f41,f42,f43⟩:=zaD h44;obtain ⟨x38,h45,hy31⟩:=bind_some hy31;refine zaU (tbl:=[0,1,0,0,12,31,63]) (ord:=[(0,0),(1,0),(2,0),(3,0),(4,0),(5,0),(6,0)]) 10 rfl (by kernel_rfl) (by kernel_rfl) fun _ z=>?_;simp only [go_sem,seval,Int.reduceToNat,f39,f41,f43,e35];refine zaR (zfH (([48,49,50,51,52,53,54,55,56,57,97,98,99,100,101,102]:Str).take (10:Int).toNat) (x37.toNat:Int) _ h45 _ _ _ (by simp only [go_sem,Int.reduceToNat])) rfl ?_;simp only [go_sem,↓reduceIte];apply z;simp only [zad];refine zao fun _ z=>?_;simp only [go_sem,seval,e35];apply z;refine zai ?_;obtain ⟨y46,hy46,hy31⟩:=bind_some hy31;refine zbh 22 [] [] rfl (fun E' m'=>E' 0=.lit (.string (bs a0))/\E' 4=.lit (.int .i64 (10:Int))/\E' 7=.lit (.int .i64 (IntKind.i64.wrap ((IntKind.i64.wrap (v29*(10:Int)))+x38)))/\E' 18=.lit (.int .i64 (a0.length:Int))/\E' 19=.lit (.int .i64 v30)/\E' 38=.lit (.bool y46)/\m'.gl=m.gl/\m.back q m'=m) ?_ ?_
   ·rcases zbf (decide (x38<(0:Int))) with c47 | c47
    ·replace hy46:=zaK c47 hy46;refine zat fun _ z=>?_;simp only [go_sem,seval,c47];apply z;obtain rfl:=zah hy46;refine ⟨by decide,?_⟩;simp only [go_sem,seval,e35]
    ·replace hy46:=zaL c47 hy46;refine zat fun _ z=>?_;simp only [go_sem,seval,c47];apply z;obtain rfl:=zah hy46;refine ⟨by decide,?_⟩;simp only [go_sem,seval,e35]
   ·intro E48 m49 e50 _;simp only [zad];refine zcb y46 (by simp only [go_sem,e50]) (fun c51=>?_) (fun c51=>?_)
    ·replace hy31:=zaK c51 hy31;refine zao fun _ z=>?_;simp only [go_sem,Nat.reduceAdd];apply z;refine zaw ?_
     try simp only [zaE,zaZ]
     obtain rfl:=zah hy31;simp only [Sum.elim_inr] at h;obtain rfl:=zah h;refine ⟨by simp,?_⟩;simp only [go_sem,seval,e50]
    ·replace hy31:=zaL c51 hy31;refine zaA ?_
     try simp only [zad,zau]
     refine zat fun _ z=>?_;simp only [go_sem,seval,e50];apply z;refine ⟨c32,Nat.lt_succ_self _,(IntKind.i64.wrap ((IntKind.i64.wrap (v29*(10:Int)))+x38)),(IntKind.i64.wrap (v30+(1:Int))),hy31,?_⟩;simp only [go_sem,seval,e50]
  ·replace hy31:=zaL c36 hy31;refine zbK ?_
   try simp only [zaW,zaQ,↓reduceIte,zad]
   obtain rfl:=zah hy31;simp only [Sum.elim_inl] at h;refine zao fun _ z=>?_;simp only [go_sem,seval,c36,e35];apply z;refine zaw ?_;obtain rfl:=zah h;refine ⟨by simp,?_⟩;simp only [go_sem,seval,e35]
def zo0 (f:Str->Option Str):Prop:=∀a0 r,f a0=some r->∀(q:Pa) (m:M) (vs:List V),vs.map V.weak1=[.lit (.string (bs a0))]/\m.gl 2=.eptr [(cA cS zbR)] 0 0->SC Tryz.prog 145 vs q m (fun v m'=>v=.lit (.string (bs r))/\m'=m)
theorem znX (n:Nat):zo0 (zkI n):=by
 rintro a0 r h q m vs ⟨hv,hg2⟩;refine SC.weak ?_;rw [hv];refine SC_w Tryz.func145 rfl (fun xs w=>Tryz.call145 xs w) Tryz.ntmps145 (by kernel_rfl) Tryz.results145 ?_;unfold zkI at h;refine zao fun _ z=>?_;simp only [go_sem];apply z;refine zai ?_;refine zao fun _ z=>?_;simp only [go_sem,Nat.reduceAdd,hg2];apply z;refine zaM ?_;obtain ⟨y3,hy3,h⟩:=bind_some h;refine zbj [] [] rfl (fun c E' m'=>∃v2,zfN a0 c v2=some y3/\E' 0=.lit (.string (bs a0))/\E' 5=.agg ((cA cS zbR))/\E' 6=.lit (.int .i64 v2)/\m'.gl=m.gl/\m.back q m'=m) n ⟨(0:Int),hy3,?_⟩ ?_
 ·simp only [go_sem,seval,zak]
 rintro i1 c4 E5 m6 ⟨v2,hy3,e7⟩ _
 rcases c4 with _ | c4
 ·exact absurd hy3 (by rw [zfN];exact fun e=>nomatch e)
 rw [zfN] at hy3;refine zao fun _ z=>?_;simp only [go_sem,e7];apply z;refine zai ?_;refine zcb (decide (v2<(26:Int))) (by simp only [go_sem,↓reduceIte]) (fun c8=>?_) (fun c8=>?_)
 ·replace hy3:=zaK c8 hy3;refine zaA ?_
  try simp only [zad]
  refine zai ?_;refine zaM ?_;refine zai ?_;obtain ⟨x9,h13,hy3⟩:=bind_some hy3;obtain ⟨f10,f11,f12⟩:=zaD h13;have f14:v2<(26:Int):=f11;obtain ⟨w15,d16⟩:=zk8 (f:=cS) (s:=1) (fun _ _=>rfl) f12;simp only [go_sem] at d16;refine zat fun _ z=>?_;simp only [go_sem,seval,f10,f14,d16,e7];apply z;refine zai ?_;obtain ⟨x17,h18,hy3⟩:=bind_some hy3;refine zat fun _ z=>?_;simp only [go_sem,seval,e7];refine SC.by_ (zg0 a0 x9 _ h18 _ _ _ (by simp only [go_sem])) ?_;simp only [go_sem,Nat.reduceAdd];apply z;refine zbN x17 (fun c19=>?_) (fun c19=>?_)
  ·replace hy3:=zaK c19 hy3;refine zao fun _ z=>?_;simp only [go_sem,seval,c19];apply z;refine zaw ?_
   try simp only [zaE,zaZ]
   obtain rfl:=zah hy3;simp only [Sum.elim_inr] at h;obtain rfl:=zah h;refine ⟨by simp,?_⟩;simp only [go_sem,↓reduceIte,e7]
  ·replace hy3:=zaL c19 hy3;refine zaA ?_
   try simp only [zad,zau]
   refine zat fun _ z=>?_;simp only [go_sem,seval,c19,e7];apply z;refine ⟨c4,Nat.lt_succ_self _,(IntKind.i64.wrap (v2+(1:Int))),hy3,?_⟩;simp only [go_sem,seval,e7]
 ·replace hy3:=zaL c8 hy3;refine zbK ?_
  try simp only [zaW,zaQ,↓reduceIte,zad]
  obtain rfl:=zah hy3;simp only [Sum.elim_inl] at h;refine zao fun _ z=>?_;simp only [go_sem,Nat.reduceAdd,c8];apply z;refine zaw ?_;obtain rfl:=zah h;refine ⟨by simp,?_⟩;simp only [go_sem,↓reduceIte,e7]
def zo1 (f:Str->Int->Option (zbg × Int)):Prop:=∀a0 a1 r,f a0 a1=some r->∀(q:Pa) (m:M) (vs:List V),vs.map V.weak1=[.lit (.string (bs a0)),.lit (.int .i64 a1)]/\m.gl 2=.eptr [(cA cS zbR)] 0 0->SC Tryz.prog 91 vs q m (fun v m'=>v=.tup [.agg ((zbg.C r.1)),.lit (.int .i64 r.2)]/\m'=m)
theorem znY (n:Nat):zo1 (zkJ n):=by
 rintro a0 a1 r h q m vs ⟨hv,hg2⟩;refine SC.weak ?_;rw [hv];refine SC_w Tryz.func91 rfl (fun xs w=>Tryz.call91 xs w) Tryz.ntmps91 (by kernel_rfl) Tryz.results91 ?_;unfold zkJ at h;refine zao fun _ z=>?_;simp only [go_sem,Nat.reduceAdd];apply z;refine zai ?_;obtain ⟨⟨f4,f5⟩,h⟩:=zaT h;obtain ⟨x2,h6,h⟩:=bind_some h;refine zat fun _ z=>?_;simp only [go_sem,seval,f4,f5];refine SC.by_ (znV n (a0.drop a1.toNat) _ h6 _ _ _ (by simp only [go_sem])) ?_;simp only [go_sem,seval];apply z;refine zai ?_;refine zaM ?_;refine zai ?_;obtain ⟨x7,h12,h⟩:=bind_some h;obtain ⟨f9,f10,f11⟩:=zaD h12;obtain ⟨x8,h13,h⟩:=bind_some h;refine zat fun _ z=>?_;simp only [go_sem,seval,f4,f11];refine SC.by_ (ziZ (x7.toNat:Int) _ h13 _ _ _ (by simp only [go_sem])) ?_;simp only [go_sem,seval];apply z;refine zbN x8 (fun c14=>?_) (fun c14=>?_)
 ·replace h:=zaK c14 h;refine zai ?_;refine zao fun _ z=>?_;simp only [go_sem,seval,c14];apply z;refine zcb (decide ((32:Int)<(x2.length:Int))) (by simp only [go_sem,↓reduceIte]) (fun c15=>?_) (fun c15=>?_)
  ·replace h:=zaK c15 h;refine zao fun _ z=>?_;simp only [go_sem,seval,c15];apply z;refine zaw ?_
   try simp only [zaE,zaZ]
   obtain rfl:=zah h;refine ⟨by simp,?_⟩;simp only [go_sem,seval,zan,zak]
  ·replace h:=zaL c15 h;refine zaA ?_
   try simp only [zad]
   refine zao fun _ z=>?_;simp only [go_sem,seval,c15];apply z;refine zaw ?_
   try simp only [zaE,zaZ]
   obtain rfl:=zah h;refine ⟨by simp,?_⟩;simp only [go_sem,seval,zan,zak]
 ·replace h:=zaL c14 h;refine zai ?_;obtain ⟨x16,h17,h⟩:=bind_some h;refine zat fun _ z=>?_;simp only [go_sem,seval,f4,f11,c14];refine SC.by_ (zld (x7.toNat:Int) _ h17 _ _ _ (by simp only [go_sem])) ?_;simp only [go_sem,seval];apply z;refine zbN x16 (fun c18=>?_) (fun c18=>?_)
  ·replace h:=zaK c18 h;refine zai ?_;obtain ⟨x19,h20,h⟩:=bind_some h;refine zat fun _ z=>?_;simp only [go_sem,seval,c18];refine SC.by_ (zna n x2 _ h20 _ _ _ (by simp only [go_sem])) ?_;simp only [go_sem,seval];apply z;refine zai ?_;refine zao fun _ z=>?_;simp only [go_sem,seval];apply z;refine zbN (!x19.2) (fun c21=>?_) (fun c21=>?_)
   ·replace h:=zaK c21 h;refine zao fun _ z=>?_;simp only [go_sem,seval,c21];apply z;refine zaw ?_
    try simp only [zaE,zaZ]
    obtain rfl:=zah h;refine ⟨by simp,?_⟩;simp only [go_sem,seval,zan,zak]
   ·replace h:=zaL c21 h;refine zaA ?_
    try simp only [zad]
    refine zao fun _ z=>?_;simp only [go_sem,seval,c21];apply z;refine zao fun _ z=>?_;simp only [go_sem,seval];apply z;refine zaw ?_
    try simp only [zaE,zaZ]
    obtain rfl:=zah h;refine ⟨by simp,?_⟩;simp only [go_sem,seval,zan,zak]
  ·replace h:=zaL c18 h;refine zaA ?_
   try simp only [zad,zau]
   refine zai ?_;obtain ⟨⟨f23,f24⟩,h⟩:=zaT h;obtain ⟨x22,h25,h⟩:=bind_some h;refine zat fun _ z=>?_;simp only [go_sem,seval,f4,f5,c18];refine SC.by_ (znX n (a0.drop a1.toNat) _ h25 _ _ _ (by simp only [go_sem,hg2])) ?_;simp only [go_sem,seval];apply z;refine zai ?_;refine zao fun _ z=>?_;simp only [go_sem,seval];apply z;refine zcb (decide (x22=([]:Str))) (by simp only [go_sem,↓reduceIte]) (fun c26=>?_) (fun c26=>?_)
   ·replace h:=zaK c26 h;refine zao fun _ z=>?_;simp only [go_sem,seval,c26];apply z;refine zaw ?_
    try simp only [zaE]
    obtain rfl:=zah h;refine ⟨by simp,?_⟩;simp only [go_sem,seval,zan,zak]
   ·replace h:=zaL c26 h;refine zaA ?_
    try simp only [zad]
    refine zao fun _ z=>?_;simp only [go_sem,seval,c26];apply z;refine zaw ?_;obtain rfl:=zah h;refine ⟨by simp,?_⟩;simp only [go_sem,seval,zan,zak]
def znc (f:Str->Option ((List zbg) × Int × Int)):Prop:=∀a0 r,f a0=some r->∀(q:Pa) (m:M) (vs:List V),vs.map V.weak1=[.list .none (zeS a0)]/\m.gl 2=.eptr [(cA cS zbR)] 0 0->SC Tryz.prog 62 vs q m (fun v m'=>v=.tup [.list .none (r.1.map zbg.C),.lit (.int .i64 r.2.1),.lit (.int .i64 r.2.2)]/\m'=m)
theorem zmD (n:Nat):znc (ziA n):=by
 rintro a0 r h q m vs ⟨hv,hg2⟩;refine SC.weak ?_;rw [hv];refine SC_w Tryz.func62 rfl (fun xs w=>Tryz.call62 xs w) Tryz.ntmps62 (by kernel_rfl) Tryz.results62 ?_;unfold ziA at h;refine zao fun _ z=>?_;simp only [go_sem,Nat.reduceAdd];apply z;refine zai ?_;refine zao fun _ z=>?_;simp only [go_sem,seval];apply z;refine zcb (decide ((65536:Int)<(a0.length:Int))) (by simp only [go_sem,↓reduceIte]) (fun c1=>?_) (fun c1=>?_)
 ·replace h:=zaK c1 h;refine zao fun _ z=>?_;simp only [go_sem,Nat.reduceAdd,c1];apply z;refine zaw ?_
  try simp only [zaE]
  obtain rfl:=zah h;refine ⟨by simp,?_⟩;simp only [go_sem,seval,zak]
 ·replace h:=zaL c1 h;refine zaA ?_
  try simp only [zad]
  refine zao fun _ z=>?_;simp only [go_sem,seval,c1];apply z;refine zao fun _ z=>?_;simp only [go_sem,Nat.reduceAdd];apply z;refine zai ?_;refine zai ?_;obtain ⟨x2,h3,h⟩:=bind_some h;refine zat fun _ z=>?_;simp only [go_sem,seval];refine SC.by_ (zly n a0 (0:Int) _ h3 _ _ _ (by simp only [go_sem])) ?_;simp only [go_sem,seval];apply z;refine zaM ?_;obtain ⟨y7,hy7,h⟩:=bind_some h;refine zfp 6 ([].map zbg.C) rfl (by simp only [go_sem,seval]) ?_;refine zbj [] [] rfl (fun c E' m'=>∃v5 v6 o_v5 j_v5,zfa n a0 c v5 v6=some y7/\E' 5=.lit (.string (bs a0))/\E' 6=.list (.st (.anon o_v5 j_v5)) (v5.map zbg.C)/\m'.tok o_v5 j_v5=true/\q <:+ o_v5/\E' 7=.lit (.int .i64 v6)/\m'.gl=m.gl/\m.back q m'=m) n ⟨[],x2,(13::q),0,hy7,?_⟩ ?_
  ·simp only [go_sem,seval,zaH,zak]
  rintro i4 c8 E9 m10 ⟨v5,v6,o_v5,j_v5,hy7,e11⟩ _
  rcases c8 with _ | c8
  ·exact absurd hy7 (by rw [zfa];exact fun e=>nomatch e)
  rw [zfa] at hy7;refine zai ?_;refine zao fun _ z=>?_;simp only [go_sem,seval,e11];apply z;refine zcb (decide (v6<(a0.length:Int))) (by simp only [go_sem,↓reduceIte]) (fun c12=>?_) (fun c12=>?_)
  ·replace hy7:=zaK c12 hy7;refine zaA ?_
   try simp only [zad]
   refine zai ?_;refine zaM ?_;refine zai ?_;obtain ⟨x13,h15,hy7⟩:=bind_some hy7;refine zat fun _ z=>?_;simp only [go_sem,seval,c12,e11];refine SC.by_ (znY n a0 v6 _ h15 _ _ _ (by simp only [go_sem,e11,hg2])) ?_;simp only [go_sem,seval];apply z;refine zai ?_;refine zao fun _ z=>?_;simp only [go_sem,seval];apply z;refine zbN (x13.2 != (0:Int)) (fun c16=>?_) (fun c16=>?_)
   ·replace hy7:=zaK c16 hy7;refine zao fun _ z=>?_;simp only [go_sem,seval,c16,e11];apply z;refine zaw ?_
    try simp only [zaE,zaZ]
    obtain rfl:=zah hy7;simp only [Sum.elim_inr] at h;obtain rfl:=zah h;refine ⟨by simp,?_⟩;simp only [go_sem,seval,zan,e11]
   ·replace hy7:=zaL c16 hy7;refine zaA ?_
    try simp only [zad]
    refine zai ?_;obtain ⟨f17,hy7⟩:=zaT hy7;have f18:v5.length+1<=1073741824:=by first | omega | (simp only [List.length_append,List.length_cons,List.length_nil] at f17 ⊢;omega)
    have f19:v5.length<=1073741823:=by first | omega | (simp only [List.length_append,List.length_cons,List.length_nil] at f17 ⊢;omega)
    refine zat fun _ z=>?_;simp only [go_sem,seval,c16,f18,e11];apply z;refine zc1 fun _ z=>?_;simp only [go_sem,seval,e11];apply z;simp only [zad,zau];obtain ⟨x20,h21,hy7⟩:=bind_some hy7;refine zat fun _ z=>?_;simp only [go_sem,seval,e11];refine SC.by_ (zly n a0 (IntKind.i64.wrap (v6+(x13.1.za7.length:Int))) _ h21 _ _ _ (by simp only [go_sem])) ?_;simp only [go_sem,seval];apply z;refine ⟨c8,Nat.lt_succ_self _,(v5++[x13.1]),x20,(18::i4::14::q),0,hy7,?_⟩;simp only [go_sem,seval,zan,zaH,e11]
  ·replace hy7:=zaL c12 hy7;refine zbK ?_
   try simp only [zaW,zaQ,↓reduceIte,zad]
   obtain rfl:=zah hy7;simp only [Sum.elim_inl] at h;refine zai ?_;obtain ⟨f22,h⟩:=zaT h;have f23:v5.length+1<=1073741824:=by first | omega | (simp only [List.length_append,List.length_cons,List.length_nil] at f22 ⊢;omega)
   have f24:v5.length<=1073741823:=by first | omega | (simp only [List.length_append,List.length_cons,List.length_nil] at f22 ⊢;omega)
   refine zat fun _ z=>?_;simp only [go_sem,seval,c12,f23,e11];apply z;refine zaw ?_;obtain rfl:=zah h;refine ⟨by simp,?_⟩;simp only [go_sem,seval,zaH,e11]
def zi9 (f:zab->Option zbg):Prop:=∀a0 r,f a0=some r->∀(q:Pa) (m:M) (vs:List V) (P0:Pa),vs.map V.weak1=[.ptr P0 0]/\m.blk P0=some ((zab.C a0))->SC Tryz.prog 64 vs q m (fun v m'=>v=.agg ((zbg.C r))/\m'=m)
theorem zb1:zi9 (zbA):=by
 rintro a0 r h q m vs P0 ⟨hv,hmP0⟩;refine SC.weak ?_;rw [hv];refine SC.apart hmP0 fun hpP0=>?_
 try simp only [go_sem] at hmP0
 refine SC_w Tryz.func64 rfl (fun xs w=>Tryz.call64 xs w) Tryz.ntmps64 (by kernel_rfl) Tryz.results64 ?_;unfold zbA at h;refine zao fun _ z=>?_;simp only [go_sem];apply z;refine zai ?_;obtain ⟨x2,h6,h⟩:=bind_some h;obtain ⟨f3,f4,f5⟩:=zaD h6;refine zaU (tbl:=[0,1,3,7,0,16,48,112,255,511,1023]) (ord:=[(0,0),(1,0),(2,0),(3,0),(4,0),(5,0),(6,0),(7,0),(8,0),(9,0),(10,0)]) 12 rfl (by kernel_rfl) (by kernel_rfl) fun _ z=>?_;simp only [go_sem,seval,pz1 hpP0,f3,f4,f5,hmP0];apply z;simp only [zad];refine zaw ?_;obtain rfl:=zah h;refine ⟨by simp,?_⟩;simp only [go_sem,seval,zan,zak]
def zjE (f:zab->Int->Option zab):Prop:=∀a0 a1 r,f a0 a1=some r->∀(q:Pa) (m:M) (vs:List V) (P0:Pa),vs.map V.weak1=[.ptr P0 0,.lit (.int .i64 a1)]/\m.blk P0=some ((zab.C a0))->SC Tryz.prog 92 vs q m (fun v m'=>v=.tup []/\m'=(m.set P0 ((zab.C r))))
theorem zdF:zjE (zcx):=by
 rintro a0 a1 r h q m vs P0 ⟨hv,hmP0⟩;refine SC.weak ?_;rw [hv];refine SC.apart hmP0 fun hpP0=>?_;have hmsP0:=za8 hmP0
 try simp only [go_sem] at hmP0 hmsP0
 refine SC_w Tryz.func92 rfl (fun xs w=>Tryz.call92 xs w) Tryz.ntmps92 (by kernel_rfl) Tryz.results92 ?_;unfold zcx at h;refine zao fun _ z=>?_;simp only [go_sem,seval,hmP0];apply z;refine zbN (a0.e_ == (0:Int)) (fun c1=>?_) (fun c1=>?_)
 ·replace h:=zaK c1 h;obtain ⟨x2,h3,h⟩:=bind_some h;refine zc1 fun _ z=>?_;simp only [go_sem,seval,c1];refine SC.by_ (zb1 a0 _ h3 _ _ _ P0 (by simp only [go_sem,hmP0])) ?_;simp only [go_sem,seval,hmP0];apply z;simp only [];obtain rfl:=zah h;refine ⟨by simp,?_⟩;simp only [go_sem,zak,zay hpP0]
 ·replace h:=zaL c1 h;refine zaA ?_;obtain rfl:=zah h;refine ⟨by simp,?_⟩;simp only [go_sem,zak,hmsP0,c1]
def zjB (f:zab->Int->Option (zaa × zab)):Prop:=∀a0 a1 r,f a0 a1=some r->∀(q:Pa) (m:M) (vs:List V) (P0:Pa),vs.map V.weak1=[.ptr P0 0,.lit (.int .i64 a1)]/\m.blk P0=some ((zab.C a0))->SC Tryz.prog 63 vs q m (fun v m'=>∃(id:Pa) (j:Nat),q <:+ id/\v=.agg ([.lit (.int .i64 r.1.za4),.lit (.int .i64 r.1.At_),.lit (.string (bs r.1.za7)),.lit (.int .u32 r.1.Num_),.list (.st (.anon id j)) (r.1.zas.map zaa.C)])/\m'=(m.set P0 ((zab.C r.2))).tokset id j true)
theorem zcc:zjB (zbG):=by
 rintro a0 a1 r h q m vs P0 ⟨hv,hmP0⟩;refine SC.weak ?_;rw [hv];refine SC.apart hmP0 fun hpP0=>?_;have hmsP0:=za8 hmP0
 try simp only [go_sem] at hmP0 hmsP0
 refine SC_ofO Tryz.func63 rfl (fun xs w=>Tryz.call63 xs w) Tryz.ntmps63 (by kernel_rfl) ?_;unfold zbG at h;refine zao fun _ z=>?_;simp only [go_sem];apply z;refine zai ?_;refine zao fun _ z=>?_;simp only [go_sem,seval,pz1 hpP0,hmP0];apply z;refine zao fun _ z=>?_;simp only [go_sem,seval];apply z;refine zcb (decide ((16384:Int)<(IntKind.i64.wrap (a0.zgo+(1:Int))))) (by simp only [go_sem,↓reduceIte]) (fun c2=>?_) (fun c2=>?_)
 ·replace h:=zaK c2 h;obtain ⟨x3,h4,h⟩:=bind_some h;refine zat fun _ z=>?_;simp only [go_sem,seval,c2];refine SC.by_ (zdF ({ a0 with zgo:=(IntKind.i64.wrap (a0.zgo+(1:Int))) }:zab) (136:Int) _ h4 _ _ _ P0 (by simp only [go_sem,↓reduceIte])) ?_;simp only [go_sem,Nat.reduceAdd];apply z;refine zai ?_;obtain ⟨x5,h6,h⟩:=bind_some h;refine zat fun _ z=>?_;simp only [go_sem,seval];refine SC.by_ (zb1 x3 _ h6 _ _ _ P0 (by simp only [go_sem,↓reduceIte])) ?_;simp only [go_sem,seval,pz1 hpP0];apply z;refine zaw ?_;obtain rfl:=zah h;refine ⟨by simp,?_⟩;refine ⟨(22::q),0,_,(by simp only [go_sem]),.cell (t:=4) (T:=90) (b:=(0::q)) (cs:=[.lit (.int .i64 a1),.lit (.int .i64 x5.At_),.lit (.string (bs [])),.lit (.int .u32 (0:Int)),.list .self ([].map zaa.C)]) (off:=4) (rows:=([].map zaa.C)) (congrArg Array.toList Tryz.results63) (by simp only [go_sem,seval]) (by simp only [go_sem]) (by simp only [go_sem,↓reduceIte]) (by simp only [go_sem]) (by simp only [go_sem,Nat.reduceAdd]) rfl,(22::q),0,(by simp only [go_sem]),?_,?_⟩ <;> simp only [go_sem,zan,za6,zak,zay hpP0]
 ·replace h:=zaL c2 h;refine zaA ?_
  try simp only [zad]
  refine zai ?_;obtain ⟨x7,h8,h⟩:=bind_some h;refine zat fun _ z=>?_;simp only [go_sem,seval,c2];refine SC.by_ (zb1 ({ a0 with zgo:=(IntKind.i64.wrap (a0.zgo+(1:Int))) }:zab) _ h8 _ _ _ P0 (by simp only [go_sem,↓reduceIte])) ?_;simp only [go_sem,seval,pz1 hpP0];apply z;refine zaw ?_;obtain rfl:=zah h;refine ⟨by simp,?_⟩;refine ⟨(20::q),0,_,(by simp only [go_sem]),.cell (t:=4) (T:=90) (b:=(0::q)) (cs:=[.lit (.int .i64 a1),.lit (.int .i64 x7.At_),.lit (.string (bs [])),.lit (.int .u32 (0:Int)),.list .self ([].map zaa.C)]) (off:=4) (rows:=([].map zaa.C)) (congrArg Array.toList Tryz.results63) (by simp only [go_sem,seval]) (by simp only [go_sem]) (by simp only [go_sem,↓reduceIte]) (by simp only [go_sem]) (by simp only [go_sem,Nat.reduceAdd]) rfl,(20::q),0,(by simp only [go_sem]),?_,?_⟩ <;> simp only [go_sem,zan,za6,zak,zay hpP0]
def zgG (f:(List Str)->Str->Option Int):Prop:=∀a0 a1 r,f a0 a1=some r->∀(q:Pa) (m:M) (vs:List V),vs.map V.weak1=[.list .none (a0.map cS),.lit (.string (bs a1))]->SC Tryz.prog 212 vs q m (fun v m'=>v=.lit (.int .i64 r)/\m'=m)
theorem zgq (n:Nat):zgG (zdh n):=by
 intro a0 a1 r h q m vs hv;refine SC.weak ?_;rw [hv];refine SC_w Tryz.func212 rfl (fun xs w=>Tryz.call212 xs w) Tryz.ntmps212 (by kernel_rfl) Tryz.results212 ?_;unfold zdh at h;refine zao fun _ z=>?_;simp only [go_sem];apply z;refine zai ?_;refine zao fun _ z=>?_;simp only [go_sem,seval];apply z;refine zaM ?_;obtain ⟨y3,hy3,h⟩:=bind_some h;refine zbj [] [] rfl (fun c E' m'=>∃v2,zbx a0 a1 c v2=some y3/\E' 0=.list .none (a0.map cS)/\E' 1=.lit (.string (bs a1))/\E' 7=.lit (.int .i64 (a0.length:Int))/\E' 8=.lit (.int .i64 v2)/\m'.gl=m.gl/\m.back q m'=m) n ⟨(0:Int),hy3,?_⟩ ?_
 ·simp only [go_sem,seval,zak]
 rintro i1 c4 E5 m6 ⟨v2,hy3,e7⟩ _
 rcases c4 with _ | c4
 ·exact absurd hy3 (by rw [zbx];exact fun e=>nomatch e)
 rw [zbx] at hy3;refine zao fun _ z=>?_;simp only [go_sem,e7];apply z;refine zai ?_;refine zcb (decide (v2<(a0.length:Int))) (by simp only [go_sem,↓reduceIte]) (fun c8=>?_) (fun c8=>?_)
 ·replace hy3:=zaK c8 hy3;refine zaA ?_
  try simp only [zad]
  refine zai ?_;refine zaM ?_;refine zao fun _ z=>?_;simp only [go_sem,seval,c8,e7];apply z;refine zai ?_;obtain ⟨x9,h13,hy3⟩:=bind_some hy3;obtain ⟨f10,f11,f12⟩:=zaD h13;refine zat fun _ z=>?_;simp only [go_sem,seval,f10,f11,f12,e7];apply z;refine zbN (decide (a1=x9)) (fun c14=>?_) (fun c14=>?_)
  ·replace hy3:=zaK c14 hy3;refine zao fun _ z=>?_;simp only [go_sem,seval,c14];apply z;refine zaw ?_
   try simp only [zaE,zaZ]
   obtain rfl:=zah hy3;simp only [Sum.elim_inr] at h;obtain rfl:=zah h;refine ⟨by simp,?_⟩;simp only [go_sem,↓reduceIte,e7]
  ·replace hy3:=zaL c14 hy3;refine zaA ?_
   try simp only [zad,zau]
   refine zat fun _ z=>?_;simp only [go_sem,seval,c14,e7];apply z;refine ⟨c4,Nat.lt_succ_self _,(IntKind.i64.wrap (v2+(1:Int))),hy3,?_⟩;simp only [go_sem,seval,e7]
 ·replace hy3:=zaL c8 hy3;refine zbK ?_
  try simp only [zaW,zaQ,↓reduceIte,zad]
  obtain rfl:=zah hy3;simp only [Sum.elim_inl] at h;refine zao fun _ z=>?_;simp only [go_sem,Nat.reduceAdd,c8];apply z;refine zaw ?_;obtain rfl:=zah h;refine ⟨by simp,?_⟩;simp only [go_sem,↓reduceIte,e7]
def zf3 (f:(List Str)->Str->Option Bool):Prop:=∀a0 a1 r,f a0 a1=some r->∀(q:Pa) (m:M) (vs:List V),vs.map V.weak1=[.list .none (a0.map cS),.lit (.string (bs a1))]->SC Tryz.prog 183 vs q m (fun v m'=>v=.lit (.bool r)/\m'=m)
theorem zf1 (n:Nat):zf3 (zcK n):=by
 intro a0 a1 r h q m vs hv;refine SC.weak ?_;rw [hv];refine SC_w Tryz.func183 rfl (fun xs w=>Tryz.call183 xs w) Tryz.ntmps183 (by kernel_rfl) Tryz.results183 ?_;unfold zcK at h;refine zao fun _ z=>?_;simp only [go_sem];apply z;refine zai ?_;obtain ⟨x1,h2,h⟩:=bind_some h;refine zat fun _ z=>?_;simp only [go_sem,seval];refine SC.by_ (zgq n a0 a1 _ h2 _ _ _ (by simp only [go_sem])) ?_;simp only [go_sem,seval];apply z;refine zaw ?_;obtain rfl:=zah h;refine ⟨by simp,?_⟩;simp only [go_sem,↓reduceIte,zak]
def zm7 (f:Str->Option Bool):Prop:=∀a0 r,f a0=some r->∀(q:Pa) (m:M) (vs:List V),vs.map V.weak1=[.lit (.string (bs a0))]/\m.gl 3=.eptr [(cA cS zaX)] 0 0->SC Tryz.prog 147 vs q m (fun v m'=>v=.lit (.bool r)/\m'=m)
theorem zkF (n:Nat):zm7 (zhf n):=by
 rintro a0 r h q m vs ⟨hv,hg3⟩;refine SC.weak ?_;rw [hv];refine SC_w Tryz.func147 rfl (fun xs w=>Tryz.call147 xs w) Tryz.ntmps147 (by kernel_rfl) Tryz.results147 ?_;unfold zhf at h;refine zao fun _ z=>?_;simp only [go_sem];apply z;refine zai ?_;obtain ⟨x1,h2,h⟩:=bind_some h;refine zat fun _ z=>?_;simp only [go_sem,seval,Int.reduceToNat,hg3];refine SC.by_ (zf1 n zaX a0 _ h2 _ _ _ (by simp only [go_sem])) ?_;simp only [go_sem,seval];apply z;refine zaw ?_;obtain rfl:=zah h;refine ⟨by simp,?_⟩;simp only [go_sem,↓reduceIte,zak]
def zkr (f:zab->Str->Option Bool):Prop:=∀a0 a1 r,f a0 a1=some r->∀(q:Pa) (m:M) (vs:List V) (P0:Pa),vs.map V.weak1=[.ptr P0 0,.lit (.string (bs a1))]/\m.blk P0=some ((zab.C a0))/\m.gl 3=.eptr [(cA cS zaX)] 0 0->SC Tryz.prog 146 vs q m (fun v m'=>v=.lit (.bool r)/\m'=m)
theorem zek (n:Nat):zkr (zcL n):=by
 rintro a0 a1 r h q m vs P0 ⟨hv,hmP0,hg3⟩;refine SC.weak ?_;rw [hv];refine SC.apart hmP0 fun hpP0=>?_
 try simp only [go_sem] at hmP0
 refine SC_w Tryz.func146 rfl (fun xs w=>Tryz.call146 xs w) Tryz.ntmps146 (by kernel_rfl) Tryz.results146 ?_;unfold zcL at h;refine zao fun _ z=>?_;simp only [go_sem];apply z;refine zai ?_;obtain ⟨x1,h3,h⟩:=bind_some h;refine zat fun _ z=>?_;simp only [go_sem,seval];refine SC.by_ (zb1 a0 _ h3 _ _ _ P0 (by simp only [go_sem,hmP0])) ?_;simp only [go_sem,seval];apply z;refine zai ?_;obtain ⟨y4,hy4,h⟩:=bind_some h;refine zbh 31 [] [] rfl (fun E' m'=>E' 4=.lit (.bool y4)/\m'.blk P0=some ((zab.C a0))/\m'.gl=m.gl/\m.back q m'=m) ?_ ?_
 ·rcases zbf (a0.e_ == (0:Int)) with c5 | c5
  ·replace hy4:=zaK c5 hy4
   rcases zbf (decide (x1.za7=a1)) with c6 | c6
   ·replace hy4:=zaK c6 hy4
    rcases zbf (x1.za4 == (3:Int)) with c7 | c7
    ·replace hy4:=zaK c7 hy4;refine zat fun _ z=>?_;simp only [go_sem,seval,pz1 hpP0,c5,c6,c7,hmP0];apply z;obtain rfl:=zah hy4;refine ⟨by decide,?_⟩;simp only [go_sem,↓reduceIte,zan,zak,pz1 hpP0,hmP0]
    ·replace hy4:=zaL c7 hy4
     rcases zbf (x1.za4 == (1:Int)) with c8 | c8
     ·replace hy4:=zaK c8 hy4;obtain ⟨x9,h10,hy4⟩:=bind_some hy4;refine zat fun _ z=>?_;simp only [go_sem,seval,pz1 hpP0,c5,c6,c7,c8,hmP0];refine SC.by_ (zkF n a1 _ h10 _ _ _ (by simp only [go_sem,hg3])) ?_;simp only [go_sem,seval];apply z;obtain rfl:=zah hy4;refine ⟨by decide,?_⟩;simp only [go_sem,↓reduceIte,zan,zak,pz1 hpP0,hmP0]
     ·replace hy4:=zaL c8 hy4;refine zat fun _ z=>?_;simp only [go_sem,seval,pz1 hpP0,c5,c6,c7,c8,hmP0];apply z;obtain rfl:=zah hy4;refine ⟨by decide,?_⟩;simp only [go_sem,↓reduceIte,zan,zak,pz1 hpP0,hmP0]
   ·replace hy4:=zaL c6 hy4;refine zat fun _ z=>?_;simp only [go_sem,seval,pz1 hpP0,c5,c6,hmP0];apply z;obtain rfl:=zah hy4;refine ⟨by decide,?_⟩;simp only [go_sem,↓reduceIte,zan,zak,pz1 hpP0,hmP0]
  ·replace hy4:=zaL c5 hy4;refine zat fun _ z=>?_;simp only [go_sem,seval,pz1 hpP0,c5,hmP0];apply z;obtain rfl:=zah hy4;refine ⟨by decide,?_⟩;simp only [go_sem,↓reduceIte,zan,zak,pz1 hpP0,hmP0]
 ·intro E11 m12 e13 _;simp only [zad];refine zaw ?_;obtain rfl:=zah h;refine ⟨by simp,?_⟩;simp only [go_sem,e13]
def zjy (f:zab->Str->Option (Bool × zab)):Prop:=∀a0 a1 r,f a0 a1=some r->∀(q:Pa) (m:M) (vs:List V) (P0:Pa),vs.map V.weak1=[.ptr P0 0,.lit (.string (bs a1))]/\m.blk P0=some ((zab.C a0))/\m.gl 3=.eptr [(cA cS zaX)] 0 0->SC Tryz.prog 93 vs q m (fun v m'=>v=.lit (.bool r.1)/\m'=(m.set P0 ((zab.C r.2))))
theorem zaO (n:Nat):zjy (zaN n):=by
 rintro a0 a1 r h q m vs P0 ⟨hv,hmP0,hg3⟩;refine SC.weak ?_;rw [hv];refine SC.apart hmP0 fun hpP0=>?_;have hmsP0:=za8 hmP0
 try simp only [go_sem] at hmP0 hmsP0
 refine SC_w Tryz.func93 rfl (fun xs w=>Tryz.call93 xs w) Tryz.ntmps93 (by kernel_rfl) Tryz.results93 ?_;unfold zaN at h;refine zao fun _ z=>?_;simp only [go_sem];apply z;refine zai ?_;refine zai ?_;obtain ⟨x1,h2,h⟩:=bind_some h;refine zat fun _ z=>?_;simp only [go_sem,seval];refine SC.by_ (zek n a0 a1 _ h2 _ _ _ P0 (by simp only [go_sem,hmP0,hg3])) ?_;simp only [go_sem,seval];apply z;refine zbN (!x1) (fun c3=>?_) (fun c3=>?_)
 ·replace h:=zaK c3 h;refine zao fun _ z=>?_;simp only [go_sem,Nat.reduceAdd,c3];apply z;refine zaw ?_
  try simp only [zaE]
  obtain rfl:=zah h;refine ⟨by simp,?_⟩;simp only [go_sem,↓reduceIte,zak,hmsP0]
 ·replace h:=zaL c3 h;refine zaA ?_
  try simp only [zad]
  refine zao fun _ z=>?_;simp only [go_sem,seval,c3,hmP0];apply z;refine zao fun _ z=>?_;simp only [go_sem,Nat.reduceAdd];apply z;refine zaw ?_;obtain rfl:=zah h;refine ⟨by simp,?_⟩;simp only [go_sem,↓reduceIte,zak,zay hpP0]
def zjC (f:zab->Str->Option zab):Prop:=∀a0 a1 r,f a0 a1=some r->∀(q:Pa) (m:M) (vs:List V) (P0:Pa),vs.map V.weak1=[.ptr P0 0,.lit (.string (bs a1))]/\m.blk P0=some ((zab.C a0))/\m.gl 3=.eptr [(cA cS zaX)] 0 0->SC Tryz.prog 94 vs q m (fun v m'=>v=.tup []/\m'=(m.set P0 ((zab.C r))))
theorem zaI (n:Nat):zjC (zaF n):=by
 rintro a0 a1 r h q m vs P0 ⟨hv,hmP0,hg3⟩;refine SC.weak ?_;rw [hv];refine SC.apart hmP0 fun hpP0=>?_;have hmsP0:=za8 hmP0
 try simp only [go_sem] at hmP0 hmsP0
 refine SC_w Tryz.func94 rfl (fun xs w=>Tryz.call94 xs w) Tryz.ntmps94 (by kernel_rfl) Tryz.results94 ?_;unfold zaF at h;refine zai ?_;obtain ⟨x1,h2,h⟩:=bind_some h;refine zat fun _ z=>?_;simp only [go_sem,seval];refine SC.by_ (zaO n a0 a1 _ h2 _ _ _ P0 (by simp only [go_sem,hmP0,hg3])) ?_;simp only [go_sem,seval];apply z;refine zbN (!x1.1) (fun c3=>?_) (fun c3=>?_)
 ·replace h:=zaK c3 h;obtain ⟨x4,h5,h⟩:=bind_some h;refine zc1 fun _ z=>?_;simp only [go_sem,seval,c3];refine SC.by_ (zdF x1.2 (110:Int) _ h5 _ _ _ P0 (by simp only [go_sem,↓reduceIte])) ?_;simp only [go_sem,Nat.reduceAdd];apply z;simp only [];obtain rfl:=zah h;refine ⟨by simp,?_⟩;simp only [go_sem,zak,zay hpP0]
 ·replace h:=zaL c3 h;refine zaA ?_;obtain rfl:=zah h;refine ⟨by simp,?_⟩;simp only [go_sem,zak,zay hpP0,c3]
def zjD (f:zab->Option (Str × zab)):Prop:=∀a0 r,f a0=some r->∀(q:Pa) (m:M) (vs:List V) (P0:Pa),vs.map V.weak1=[.ptr P0 0]/\m.blk P0=some ((zab.C a0))/\m.gl 3=.eptr [(cA cS zaX)] 0 0->SC Tryz.prog 95 vs q m (fun v m'=>v=.lit (.string (bs r.1))/\m'=(m.set P0 ((zab.C r.2))))
theorem zcd (n:Nat):zjD (zby n):=by
 rintro a0 r h q m vs P0 ⟨hv,hmP0,hg3⟩;refine SC.weak ?_;rw [hv];refine SC.apart hmP0 fun hpP0=>?_;have hmsP0:=za8 hmP0
 try simp only [go_sem] at hmP0 hmsP0
 refine SC_w Tryz.func95 rfl (fun xs w=>Tryz.call95 xs w) Tryz.ntmps95 (by kernel_rfl) Tryz.results95 ?_;unfold zby at h;refine zao fun _ z=>?_;simp only [go_sem];apply z;refine zai ?_;obtain ⟨x1,h3,h⟩:=bind_some h;refine zat fun _ z=>?_;simp only [go_sem,seval];refine SC.by_ (zb1 a0 _ h3 _ _ _ P0 (by simp only [go_sem,hmP0])) ?_;simp only [go_sem,seval];apply z;refine zai ?_;refine zai ?_;obtain ⟨y4,hy4,h⟩:=bind_some h;refine zbh 20 [] [] rfl (fun E' m'=>E' 0=.ptr P0 0/\E' 3=.ptr (3::q) 0/\E' 20=.lit (.bool y4)/\m'.blk P0=some ((zab.C a0))/\m'.blk (3::q)=some ((zbg.C x1))/\m'.gl=m.gl/\m.back q m'=(m.set P0 ((zab.C a0)))) ?_ ?_
 ·rcases zbf (a0.e_ != (0:Int)) with c5 | c5
  ·replace hy4:=zaK c5 hy4;refine zat fun _ z=>?_;simp only [go_sem,seval,pz1 hpP0,c5,hmP0];apply z;obtain rfl:=zah hy4;refine ⟨by decide,?_⟩;simp only [go_sem,seval,zan,zak,hmsP0,pz1 hpP0,hmP0]
  ·replace hy4:=zaL c5 hy4
   rcases zbf (x1.za4 != (1:Int)) with c6 | c6
   ·replace hy4:=zaK c6 hy4;refine zat fun _ z=>?_;simp only [go_sem,seval,pz1 hpP0,c5,c6,hmP0];apply z;obtain rfl:=zah hy4;refine ⟨by decide,?_⟩;simp only [go_sem,seval,zan,zak,hmsP0,pz1 hpP0,hmP0]
   ·replace hy4:=zaL c6 hy4;obtain ⟨x7,h8,hy4⟩:=bind_some hy4;refine zat fun _ z=>?_;simp only [go_sem,seval,pz1 hpP0,c5,c6,hmP0];refine SC.by_ (zkF n x1.za7 _ h8 _ _ _ (by simp only [go_sem,hg3])) ?_;simp only [go_sem,seval];apply z;obtain rfl:=zah hy4;refine ⟨by decide,?_⟩;simp only [go_sem,seval,zan,zak,hmsP0,pz1 hpP0,hmP0]
 ·intro E9 m10 e11 _;simp only [zad];refine zcb y4 (by simp only [go_sem,e11]) (fun c12=>?_) (fun c12=>?_)
  ·replace h:=zaK c12 h;refine zai ?_;obtain ⟨x13,h14,h⟩:=bind_some h;refine zat fun _ z=>?_;simp only [go_sem,seval,e11];refine SC.by_ (zdF a0 (110:Int) _ h14 _ _ _ P0 (by simp only [go_sem,e11])) ?_;simp only [go_sem,Nat.reduceAdd];apply z;refine zao fun _ z=>?_;simp only [go_sem,Nat.reduceAdd];apply z;refine zaw ?_
   try simp only [zaE]
   obtain rfl:=zah h;refine ⟨by simp,?_⟩;simp only [go_sem,↓reduceIte,zay hpP0,hmsP0,e11]
  ·replace h:=zaL c12 h;refine zaA ?_
   try simp only [zad]
   refine zao fun _ z=>?_;simp only [go_sem,seval,e11];apply z;refine zao fun _ z=>?_;simp only [go_sem,seval,pz1 hpP0,e11];apply z;refine zaw ?_;obtain rfl:=zah h;refine ⟨by simp,?_⟩;simp only [go_sem,↓reduceIte,zay hpP0,hmsP0,e11]
def ziJ (f:zab->Option (Int × zab)):Prop:=∀a0 r,f a0=some r->∀(q:Pa) (m:M) (vs:List V) (P0:Pa),vs.map V.weak1=[.ptr P0 0]/\m.blk P0=some ((zab.C a0))->SC Tryz.prog 184 vs q m (fun v m'=>v=.lit (.int .u32 r.1)/\m'=(m.set P0 ((zab.C r.2))))
theorem zfU:ziJ (zc9):=by
 rintro a0 r h q m vs P0 ⟨hv,hmP0⟩;refine SC.weak ?_;rw [hv];refine SC.apart hmP0 fun hpP0=>?_;have hmsP0:=za8 hmP0
 try simp only [go_sem] at hmP0 hmsP0
 refine SC_w Tryz.func184 rfl (fun xs w=>Tryz.call184 xs w) Tryz.ntmps184 (by kernel_rfl) Tryz.results184 ?_;unfold zc9 at h;refine zao fun _ z=>?_;simp only [go_sem];apply z;refine zai ?_;obtain ⟨x1,h3,h⟩:=bind_some h;refine zat fun _ z=>?_;simp only [go_sem,seval];refine SC.by_ (zb1 a0 _ h3 _ _ _ P0 (by simp only [go_sem,hmP0])) ?_;simp only [go_sem,seval];apply z;refine zai ?_;refine zai ?_;obtain ⟨y4,hy4,h⟩:=bind_some h;refine zbh 15 [] [] rfl (fun E' m'=>E' 0=.ptr P0 0/\E' 3=.ptr (3::q) 0/\E' 15=.lit (.bool y4)/\m'.blk P0=some ((zab.C a0))/\m'.blk (3::q)=some ((zbg.C x1))/\m'.gl=m.gl/\m.back q m'=(m.set P0 ((zab.C a0)))) ?_ ?_
 ·rcases zbf (a0.e_ != (0:Int)) with c5 | c5
  ·replace hy4:=zaK c5 hy4;refine zat fun _ z=>?_;simp only [go_sem,seval,pz1 hpP0,c5,hmP0];apply z;obtain rfl:=zah hy4;refine ⟨by decide,?_⟩;simp only [go_sem,seval,zan,zak,hmsP0,pz1 hpP0,hmP0]
  ·replace hy4:=zaL c5 hy4;refine zat fun _ z=>?_;simp only [go_sem,seval,pz1 hpP0,c5,hmP0];apply z;obtain rfl:=zah hy4;refine ⟨by decide,?_⟩;simp only [go_sem,seval,zan,zak,hmsP0,pz1 hpP0,hmP0]
 ·intro E6 m7 e8 _;simp only [zad];refine zcb y4 (by simp only [go_sem,e8]) (fun c9=>?_) (fun c9=>?_)
  ·replace h:=zaK c9 h;refine zai ?_;obtain ⟨x10,h11,h⟩:=bind_some h;refine zat fun _ z=>?_;simp only [go_sem,seval,e8];refine SC.by_ (zdF a0 (110:Int) _ h11 _ _ _ P0 (by simp only [go_sem,e8])) ?_;simp only [go_sem,Nat.reduceAdd];apply z;refine zao fun _ z=>?_;simp only [go_sem,Nat.reduceAdd];apply z;refine zaw ?_
   try simp only [zaE]
   obtain rfl:=zah h;refine ⟨by simp,?_⟩;simp only [go_sem,↓reduceIte,zay hpP0,hmsP0,e8]
  ·replace h:=zaL c9 h;refine zaA ?_
   try simp only [zad]
   refine zao fun _ z=>?_;simp only [go_sem,seval,e8];apply z;refine zao fun _ z=>?_;simp only [go_sem,seval,pz1 hpP0,e8];apply z;refine zaw ?_;obtain rfl:=zah h;refine ⟨by simp,?_⟩;simp only [go_sem,↓reduceIte,zay hpP0,hmsP0,e8]
def zjz (f:zab->Option (Int × zab)):Prop:=∀a0 r,f a0=some r->∀(q:Pa) (m:M) (vs:List V) (P0:Pa),vs.map V.weak1=[.ptr P0 0]/\m.blk P0=some ((zab.C a0))/\m.gl 3=.eptr [(cA cS zaX)] 0 0->SC Tryz.prog 148 vs q m (fun v m'=>v=.lit (.int .u32 r.1)/\m'=(m.set P0 ((zab.C r.2))))
theorem zgl (n:Nat):zjz (zdP n):=by
 rintro a0 r h q m vs P0 ⟨hv,hmP0,hg3⟩;refine SC.weak ?_;rw [hv];refine SC.apart hmP0 fun hpP0=>?_;have hmsP0:=za8 hmP0
 try simp only [go_sem] at hmP0 hmsP0
 refine SC_w Tryz.func148 rfl (fun xs w=>Tryz.call148 xs w) Tryz.ntmps148 (by kernel_rfl) Tryz.results148 ?_;unfold zdP at h;refine zao fun _ z=>?_;simp only [go_sem];apply z;refine zai ?_;obtain ⟨x1,h2,h⟩:=bind_some h;refine zat fun _ z=>?_;simp only [go_sem,seval];refine SC.by_ (zaI n a0 ([91]:Str) _ h2 _ _ _ P0 (by simp only [go_sem,hmP0,hg3])) ?_;simp only [go_sem,Nat.reduceAdd];apply z;refine zai ?_;obtain ⟨x3,h4,h⟩:=bind_some h;refine zat fun _ z=>?_;simp only [go_sem,seval];refine SC.by_ (zfU x1 _ h4 _ _ _ P0 (by simp only [go_sem,↓reduceIte])) ?_;simp only [go_sem,seval];apply z;refine zai ?_;obtain ⟨x5,h6,h⟩:=bind_some h;refine zat fun _ z=>?_;simp only [go_sem,seval];refine SC.by_ (zaI n x3.2 ([93]:Str) _ h6 _ _ _ P0 (by simp only [go_sem,↓reduceIte,hg3])) ?_;simp only [go_sem,Nat.reduceAdd];apply z;refine zao fun _ z=>?_;simp only [go_sem,seval];apply z;refine zaw ?_;obtain rfl:=zah h;refine ⟨by simp,?_⟩;simp only [go_sem,↓reduceIte,zak,zay hpP0]
def zjb (f:zab->Option (zaa × zab)):Prop:=∀a0 r,f a0=some r->∀(q:Pa) (m:M) (vs:List V) (P0:Pa),vs.map V.weak1=[.ptr P0 0]/\m.blk P0=some ((zab.C a0))/\m.gl 3=.eptr [(cA cS zaX)] 0 0->SC Tryz.prog 97 vs q m (fun v m'=>v=.agg ((zaa.C r.1))/\m'=(m.set P0 ((zab.C r.2))))
theorem ziI (n:Nat):zjb (zei n):=by
 rintro a0 r h q m vs P0 ⟨hv,hmP0,hg3⟩;refine SC.weak ?_;rw [hv];refine SC.apart hmP0 fun hpP0=>?_;have hmsP0:=za8 hmP0
 try simp only [go_sem] at hmP0 hmsP0
 refine SC_w Tryz.func97 rfl (fun xs w=>Tryz.call97 xs w) Tryz.ntmps97 (by kernel_rfl) Tryz.results97 ?_;unfold zei at h;refine zao fun _ z=>?_;simp only [go_sem];apply z;refine zai ?_;obtain ⟨x2,h4,h⟩:=bind_some h;refine zat fun _ z=>?_;simp only [go_sem,seval];refine SC.mono (zcc a0 (3:Int) _ h4 _ _ _ P0 (by simp only [go_sem,↓reduceIte,pz2 hpP0,hmP0])) ?_;rintro _ _ ⟨o_x2,j_x2,s_x2,rfl,rfl⟩;replace s_x2:q <:+ o_x2:=List.IsSuffix.trans (by simp only [go_sem]) s_x2;simp only [go_sem,seval];apply z;refine zai ?_;obtain ⟨x5,h6,h⟩:=bind_some h;refine zat fun _ z=>?_;simp only [go_sem,seval];refine SC.by_ (zcd n x2.2 _ h6 _ _ _ P0 (by simp only [go_sem,↓reduceIte,pz2 hpP0,hg3])) ?_;simp only [go_sem,seval,pz2 hpP0];apply z;refine zai ?_;obtain ⟨x7,h8,h⟩:=bind_some h;refine zat fun _ z=>?_;simp only [go_sem,seval];refine SC.by_ (zaI n x5.2 ([58]:Str) _ h8 _ _ _ P0 (by simp only [go_sem,↓reduceIte,pz2 hpP0,hg3])) ?_;simp only [go_sem,Nat.reduceAdd];apply z;refine zai ?_;refine zao fun _ z=>?_;simp only [go_sem,seval];apply z;refine zaM ?_;obtain ⟨y14,hy14,h⟩:=bind_some h;refine zbj [] [] rfl (fun c E' m'=>∃v10 v11 v12 v13,zcv n c v10 v11 v12 v13=some y14/\E' 0=.ptr P0 0/\E' 2=.ptr (0::q) 0/\E' 3=.ptr (3::q) 0/\E' 14=.agg ((cA cS ze5))/\E' 15=.lit (.int .i64 v10)/\m'.blk P0=some ((zab.C v11))/\m'.blk (0::q)=some ([.lit (.int .i64 v12.za4),.lit (.int .i64 v12.At_),.lit (.string (bs v12.za7)),.lit (.int .u32 v12.Num_),.list .self (v12.zas.map zaa.C)])/\m'.blk (3::q)=some ([.lit (.int .i64 v13.za4),.lit (.int .i64 v13.At_),.lit (.string (bs v13.za7)),.lit (.int .u32 v13.Num_),.list .self (v13.zas.map zaa.C)])/\m'.gl=m.gl/\m.back q m'=(m.set P0 ((zab.C v11)))) n ⟨(0:Int),x7,(zaa.mk (0:Int) (0:Int) [] (0:Int) []),({ x2.1 with za7:=x5.1 }:zaa),hy14,?_⟩ ?_
 ·(simp only [go_sem,seval,zan,za6,zaH,zak,zay hpP0,pz2 hpP0,s_x2]) <;> (try and_intros) <;> rfl
 rintro i9 c15 E16 m17 ⟨v10,v11,v12,v13,hy14,e18⟩ _
 rcases c15 with _ | c15
 ·exact absurd hy14 (by rw [zcv];exact fun e=>nomatch e)
 rw [zcv] at hy14;refine zao fun _ z=>?_;simp only [go_sem,e18];apply z;refine zai ?_;refine zcb (decide (v10<(3:Int))) (by simp only [go_sem,↓reduceIte]) (fun c19=>?_) (fun c19=>?_)
 ·replace hy14:=zaK c19 hy14;refine zaA ?_
  try simp only [zad]
  refine zai ?_;refine zaM ?_;refine zai ?_;obtain ⟨x20,h24,hy14⟩:=bind_some hy14;obtain ⟨f21,f22,f23⟩:=zaD h24;have f25:v10<(3:Int):=f22;obtain ⟨w26,d27⟩:=zk8 (f:=cS) (s:=1) (fun _ _=>rfl) f23;simp only [go_sem] at d27;have d28:List.drop (v10.toNat) [V.lit (.string (bs ([112,117,98]:Str))),V.lit (.string (bs ([117,51,50]:Str))),V.lit (.string (bs ([117,54,52]:Str)))]=_:=d27;refine zat fun _ z=>?_;simp only [go_sem,seval,f21,f25,d27,e18];apply z;refine zai ?_;obtain ⟨x29,h30,hy14⟩:=bind_some hy14;refine zat fun _ z=>?_;simp only [go_sem,seval,e18];refine SC.by_ (zaO n v11 x20 _ h30 _ _ _ P0 (by simp only [go_sem,e18,hg3])) ?_;simp only [go_sem,Nat.reduceAdd];apply z;refine zbN x29.1 (fun c31=>?_) (fun c31=>?_)
  ·replace hy14:=zaK c31 hy14;refine zao fun _ z=>?_;simp only [go_sem,seval,pz2 hpP0,c31,e18];apply z;refine zao fun _ z=>?_;simp only [go_sem,seval,pz2 hpP0,e18];apply z;refine zaw ?_
   try simp only [zaE,zaZ]
   obtain rfl:=zah hy14;simp only [Sum.elim_inr] at h;obtain rfl:=zah h;refine ⟨by simp,?_⟩;simp only [go_sem,seval,zan,zay hpP0,e18]
  ·replace hy14:=zaL c31 hy14;refine zaA ?_
   try simp only [zad,zau]
   refine zat fun _ z=>?_;simp only [go_sem,seval,c31,e18];apply z;refine ⟨c15,Nat.lt_succ_self _,(IntKind.i64.wrap (v10+(1:Int))),x29.2,v12,v13,hy14,?_⟩
   (simp only [go_sem,seval,zay hpP0,pz2 hpP0,e18]) <;> (try and_intros) <;> rfl
 ·replace hy14:=zaL c19 hy14;refine zbK ?_
  try simp only [zaW,zaQ,↓reduceIte,zad]
  obtain rfl:=zah hy14;simp only [Sum.elim_inl] at h;refine zao fun _ z=>?_;simp only [go_sem,seval,c19,e18];apply z;refine zai ?_;obtain ⟨x32,h34,h⟩:=bind_some h;refine zat fun _ z=>?_;simp only [go_sem,seval,e18];refine SC.mono (zcc v11 (14:Int) _ h34 _ _ _ P0 (by simp only [go_sem,↓reduceIte,pz2 hpP0,e18])) ?_;rintro _ _ ⟨o_x32,j_x32,s_x32,rfl,rfl⟩;replace s_x32:q <:+ o_x32:=List.IsSuffix.trans (by simp only [go_sem]) s_x32;simp only [go_sem,seval];apply z;refine zai ?_;obtain ⟨x35,h36,h⟩:=bind_some h;refine zat fun _ z=>?_;simp only [go_sem,seval,e18];refine SC.by_ (zgl n x32.2 _ h36 _ _ _ P0 (by simp only [go_sem,↓reduceIte,pz2 hpP0,e18,hg3])) ?_;simp only [go_sem,seval,pz2 hpP0];apply z;refine zao fun _ z=>?_;simp only [go_sem,seval,pz2 hpP0,e18];apply z;refine zao fun _ z=>?_;simp only [go_sem,seval,pz2 hpP0,e18];apply z;refine zaw ?_;obtain rfl:=zah h;refine ⟨by simp,?_⟩;simp only [go_sem,seval,zan,za6,zaH,zay hpP0,s_x32,e18]
def zg6 (f:zab->Option ((List zaa) × zab)):Prop:=∀a0 r,f a0=some r->∀(q:Pa) (m:M) (vs:List V) (P0:Pa),vs.map V.weak1=[.ptr P0 0,.fn (.func 97) [.ptr P0 0] []]/\m.blk P0=some ((zab.C a0))/\m.gl 3=.eptr [(cA cS zaX)] 0 0->SC Tryz.prog 96 vs q m (fun v m'=>∃(id:Pa) (j:Nat),q <:+ id/\v=.list (.st (.anon id j)) (r.1.map zaa.C)/\m'=(m.set P0 ((zab.C r.2))).tokset id j true)
theorem zff (n:Nat):zg6 (zbX n):=by
 rintro a0 r h q m vs P0 ⟨hv,hmP0,hg3⟩;refine SC.weak ?_;rw [hv];refine SC.apart hmP0 fun hpP0=>?_;have hmsP0:=za8 hmP0
 try simp only [go_sem] at hmP0 hmsP0
 refine SC_ofO Tryz.func96 rfl (fun xs w=>Tryz.call96 xs w) Tryz.ntmps96 (by kernel_rfl) ?_;unfold zbX at h;refine zao fun _ z=>?_;simp only [go_sem];apply z;refine zao fun _ z=>?_;simp only [go_sem,Nat.reduceAdd];apply z;refine zai ?_;obtain ⟨x1,h2,h⟩:=bind_some h;refine zat fun _ z=>?_;simp only [go_sem,seval];refine SC.by_ (zaI n a0 ([40]:Str) _ h2 _ _ _ P0 (by simp only [go_sem,hmP0,hg3])) ?_;simp only [go_sem,Nat.reduceAdd];apply z;refine zai ?_;refine zai ?_;obtain ⟨x3,h4,h⟩:=bind_some h;refine zat fun _ z=>?_;simp only [go_sem,seval];refine SC.by_ (zaO n x1 ([41]:Str) _ h4 _ _ _ P0 (by simp only [go_sem,↓reduceIte,hg3])) ?_;simp only [go_sem,Nat.reduceAdd];apply z;refine zbN x3.1 (fun c5=>?_) (fun c5=>?_)
 ·replace h:=zaK c5 h;refine zao fun _ z=>?_;simp only [go_sem,Nat.reduceAdd,c5];apply z;refine zaw ?_
  try simp only [zaE]
  obtain rfl:=zah h;refine ⟨by simp,?_⟩;refine ⟨(7::q),0,_,(by simp only [go_sem]),.exact (t:=4) (rows:=([].map zaa.C)) (congrArg Array.toList Tryz.results96) (by simp only [go_sem,↓reduceIte]),(7::q),0,(by simp only [go_sem]),?_,?_⟩ <;> simp only [go_sem,zak,zay hpP0]
 ·replace h:=zaL c5 h;refine zaA ?_
  try simp only [zad]
  refine zai ?_;obtain ⟨y6,hy6,h⟩:=bind_some h;refine zbh 8 [] [] rfl (fun E' m'=>∃(oy6_5:Pa) (jy6_5:Nat),E' 0=.ptr P0 0/\E' 5=.list (.st (.anon oy6_5 jy6_5)) (y6.1.map zaa.C)/\m'.tok oy6_5 jy6_5=true/\q <:+ oy6_5/\m'.blk P0=some ((zab.C y6.2))/\m'.gl=m.gl/\m.back q m'=(m.set P0 ((zab.C y6.2)))) ?_ ?_
  ·refine zaM ?_;obtain ⟨y10,hy10,hy6⟩:=bind_some hy6;refine zfp 5 ([].map zaa.C) rfl (by simp only [go_sem,seval,c5]) ?_;refine zbj [] [] rfl (fun c E' m'=>∃v8 v9 o_v8 j_v8,zbH n c v8 v9=some y10/\E' 0=.ptr P0 0/\E' 1=.fn (.func 97) [.ptr P0 0] []/\E' 5=.list (.st (.anon o_v8 j_v8)) (v8.map zaa.C)/\m'.tok o_v8 j_v8=true/\q <:+ o_v8/\m'.blk P0=some ((zab.C v9))/\m'.gl=m.gl/\m.back q m'=(m.set P0 ((zab.C v9)))) n ⟨[],x3.2,(6::q),0,hy10,?_⟩ ?_
   ·simp only [go_sem,seval,zaH,zak,zay hpP0,c5]
   rintro i7 c11 E12 m13 ⟨v8,v9,o_v8,j_v8,hy10,e14⟩ _
   rcases c11 with _ | c11
   ·exact absurd hy10 (by rw [zbH];exact fun e=>nomatch e)
   rw [zbH] at hy10;refine zai ?_;refine zao fun _ z=>?_;simp only [go_sem,seval,e14];apply z;refine zbN (v9.e_ == (0:Int)) (fun c15=>?_) (fun c15=>?_)
   ·replace hy10:=zaK c15 hy10;refine zaA ?_
    try simp only [zad]
    refine zaM ?_;refine zai ?_;obtain ⟨x16,h17,hy10⟩:=bind_some hy10;obtain ⟨f18,hy10⟩:=zaT hy10;have f19:v8.length+1<=1073741824:=by first | omega | (simp only [List.length_append,List.length_cons,List.length_nil] at f18 ⊢;omega)
    have f20:v8.length<=1073741823:=by first | omega | (simp only [List.length_append,List.length_cons,List.length_nil] at f18 ⊢;omega)
    refine zat fun _ z=>?_;simp only [go_sem,seval,c15,e14];refine SC.by_ (ziI n v9 _ h17 _ _ _ P0 (by simp only [go_sem,e14,hg3])) ?_;simp only [go_sem,seval,f19,e14];apply z;refine zai ?_;obtain ⟨x21,h22,hy10⟩:=bind_some hy10;refine zat fun _ z=>?_;simp only [go_sem,seval,e14];refine SC.by_ (zaO n x16.2 ([44]:Str) _ h22 _ _ _ P0 (by simp only [go_sem,↓reduceIte,e14,hg3])) ?_;simp only [go_sem,seval];apply z;refine zbN (!x21.1) (fun c23=>?_) (fun c23=>?_)
    ·replace hy10:=zaK c23 hy10;refine zbK ?_
     try simp only [seval,zaW,zaQ,zad]
     obtain rfl:=zah hy10;obtain rfl:=zah hy6;refine ⟨by decide,(9::i7::7::q),0,?_⟩;simp only [go_sem,seval,zaH,zay hpP0,c23,e14]
    ·replace hy10:=zaL c23 hy10;refine zaA ?_
     try simp only [zad,zau]
     refine ⟨c11,Nat.lt_succ_self _,(v8++[x16.1]),x21.2,(9::i7::7::q),0,hy10,?_⟩;simp only [go_sem,seval,zaH,zay hpP0,c23,e14]
   ·replace hy10:=zaL c15 hy10;refine zbK ?_
    try simp only [zaW,zaQ,↓reduceIte,zad]
    obtain rfl:=zah hy10;obtain rfl:=zah hy6;refine ⟨by decide,o_v8,j_v8,?_⟩;simp only [go_sem,seval,c15,e14]
  ·rintro E24 m25 ⟨oy6_5,jy6_5,e26⟩ _;simp only [zad];refine zai ?_;obtain ⟨x27,h28,h⟩:=bind_some h;refine zat fun _ z=>?_;simp only [go_sem,seval,e26];refine SC.by_ (zaI n y6.2 ([41]:Str) _ h28 _ _ _ P0 (by simp only [go_sem,e26,hg3])) ?_;simp only [go_sem,Nat.reduceAdd];apply z;refine zao fun _ z=>?_;simp only [go_sem,seval,e26];apply z;refine zaw ?_;obtain rfl:=zah h;refine ⟨by simp,?_⟩;refine ⟨oy6_5,jy6_5,_,(by simp only [go_sem,e26]),.mine (t:=4) (rows:=(y6.1.map zaa.C)) (congrArg Array.toList Tryz.results96) (by simp only [go_sem,↓reduceIte]) (by simp only [go_sem,e26]),oy6_5,jy6_5,(by simp only [go_sem,e26]),?_,?_⟩ <;> simp only [go_sem,zay hpP0,e26]
def zjF (f:zab->Int->Option zab):Prop:=∀a0 a1 r,f a0 a1=some r->∀(q:Pa) (m:M) (vs:List V) (P0:Pa),vs.map V.weak1=[.ptr P0 0,.lit (.int .i64 a1)]/\m.blk P0=some ((zab.C a0))->SC Tryz.prog 149 vs q m (fun v m'=>v=.tup []/\m'=(m.set P0 ((zab.C r))))
theorem zgn:zjF (zdR):=by
 rintro a0 a1 r h q m vs P0 ⟨hv,hmP0⟩;refine SC.weak ?_;rw [hv];refine SC.apart hmP0 fun hpP0=>?_;have hmsP0:=za8 hmP0
 try simp only [go_sem] at hmP0 hmsP0
 refine SC_w Tryz.func149 rfl (fun xs w=>Tryz.call149 xs w) Tryz.ntmps149 (by kernel_rfl) Tryz.results149 ?_;unfold zdR at h;refine zao fun _ z=>?_;simp only [go_sem,seval];apply z;refine zcb (decide ((64:Int)<a1)) (by simp only [go_sem,↓reduceIte]) (fun c1=>?_) (fun c1=>?_)
 ·replace h:=zaK c1 h;obtain ⟨x2,h3,h⟩:=bind_some h;refine zc1 fun _ z=>?_;simp only [go_sem,seval,c1];refine SC.by_ (zdF a0 (111:Int) _ h3 _ _ _ P0 (by simp only [go_sem,hmP0])) ?_;simp only [go_sem,Nat.reduceAdd];apply z;simp only [];obtain rfl:=zah h;refine ⟨by simp,?_⟩;simp only [go_sem,zak,zay hpP0]
 ·replace h:=zaL c1 h;refine zaA ?_;obtain rfl:=zah h;refine ⟨by simp,?_⟩;simp only [go_sem,zak,hmsP0,c1]
def zjA (f:zab->Int->Option Str):Prop:=∀a0 a1 r,f a0 a1=some r->∀(q:Pa) (m:M) (vs:List V) (P0:Pa),vs.map V.weak1=[.ptr P0 0,.lit (.int .i64 a1)]/\m.blk P0=some ((zab.C a0))/\m.gl 3=.eptr [(cA cS zaX)] 0 0/\m.gl 5=.eptr [(cA (cA cS) zbc)] 0 0->SC Tryz.prog 232 vs q m (fun v m'=>v=.lit (.string (bs r))/\m'=m)
theorem zgm (n:Nat):zjA (zdQ n):=by
 rintro a0 a1 r h q m vs P0 ⟨hv,hmP0,hg3,hg5⟩;refine SC.weak ?_;rw [hv];refine SC.apart hmP0 fun hpP0=>?_
 try simp only [go_sem] at hmP0
 refine SC_w Tryz.func232 rfl (fun xs w=>Tryz.call232 xs w) Tryz.ntmps232 (by kernel_rfl) Tryz.results232 ?_;unfold zdQ at h;refine zao fun _ z=>?_;simp only [go_sem];apply z;refine zai ?_;refine zai ?_;obtain ⟨x1,h5,h⟩:=bind_some h;obtain ⟨f2,f3,f4⟩:=zaD h5;have f6:a1<(7:Int):=f3;obtain ⟨w7,d8⟩:=zk8 (f:=(cA cS)) (s:=3) (cA_all (f:=(cA cS)) (s:=3) _ (by kernel_rfl)) f4;have d9:=(cA_all (f:=(cA cS)) (s:=3) _ (by kernel_rfl)) _ (List.mem_of_getElem? f4);have d10:=List.take_left' (l₂:=w7) d9;have d11:(3<=(cA cS x1).length+w7.length)=True:=eq_true (by omega);refine zat fun _ z=>?_;simp only [go_sem,seval,f2,f6,d10,d11,d8,hg5];apply z;refine zaM ?_;obtain ⟨y14,hy14,h⟩:=bind_some h;refine zbj [] [] rfl (fun c E' m'=>∃v13,zcD n x1 a0 c v13=some y14/\E' 0=.ptr P0 0/\E' 9=.agg ((cA cS x1))/\E' 10=.lit (.int .i64 v13)/\m'.blk P0=some ((zab.C a0))/\m'.gl=m.gl/\m.back q m'=m) n ⟨(0:Int),hy14,?_⟩ ?_
 ·simp only [go_sem,seval,zak,hmP0]
 rintro i12 c15 E16 m17 ⟨v13,hy14,e18⟩ _
 rcases c15 with _ | c15
 ·exact absurd hy14 (by rw [zcD];exact fun e=>nomatch e)
 rw [zcD] at hy14;refine zao fun _ z=>?_;simp only [go_sem,e18];apply z;refine zai ?_;refine zcb (decide (v13<(3:Int))) (by simp only [go_sem,↓reduceIte]) (fun c19=>?_) (fun c19=>?_)
 ·replace hy14:=zaK c19 hy14;refine zaA ?_
  try simp only [zad]
  refine zai ?_;refine zaM ?_;refine zai ?_;obtain ⟨x20,h24,hy14⟩:=bind_some hy14;obtain ⟨f21,f22,f23⟩:=zaD h24;have f25:=(List.getElem?_eq_some_iff.1 f23).1;have f26:v13<(3:Int):=by have:=cA_one d9;omega
  obtain ⟨w27,d28⟩:=zk8 (f:=cS) (s:=1) (fun _ _=>rfl) f23;simp only [go_sem] at d28;refine zat fun _ z=>?_;simp only [go_sem,seval,f21,f26,d28,e18];apply z;refine zai ?_;obtain ⟨y29,hy29,hy14⟩:=bind_some hy14;refine zbh 10 [] [] rfl (fun E' m'=>E' 0=.ptr P0 0/\E' 6=.lit (.string (bs x20))/\E' 9=.agg ((cA cS x1))/\E' 10=.lit (.int .i64 v13)/\E' 19=.lit (.bool y29)/\m'.blk P0=some ((zab.C a0))/\m'.gl=m.gl/\m.back q m'=m) ?_ ?_
  ·rcases zbf (decide (x20 ≠ ([]:Str))) with c30 | c30
   ·replace hy29:=zaK c30 hy29;obtain ⟨x31,h32,hy29⟩:=bind_some hy29;refine zat fun _ z=>?_;simp only [go_sem,seval,c30,e18];refine SC.by_ (zek n a0 x20 _ h32 _ _ _ P0 (by simp only [go_sem,e18,hg3])) ?_;simp only [go_sem,seval];apply z;obtain rfl:=zah hy29;refine ⟨by decide,?_⟩;simp only [go_sem,seval,e18]
   ·replace hy29:=zaL c30 hy29;refine zat fun _ z=>?_;simp only [go_sem,seval,c30];apply z;obtain rfl:=zah hy29;refine ⟨by decide,?_⟩;simp only [go_sem,seval,e18]
  ·intro E33 m34 e35 _;simp only [zad];refine zcb y29 (by simp only [go_sem,e35]) (fun c36=>?_) (fun c36=>?_)
   ·replace hy14:=zaK c36 hy14;refine zao fun _ z=>?_;simp only [go_sem,seval,e35];apply z;refine zaw ?_
    try simp only [zaE,zaZ]
    obtain rfl:=zah hy14;simp only [Sum.elim_inr] at h;obtain rfl:=zah h;refine ⟨by simp,?_⟩;simp only [go_sem,↓reduceIte,e35]
   ·replace hy14:=zaL c36 hy14;refine zaA ?_
    try simp only [zad,zau]
    refine zat fun _ z=>?_;simp only [go_sem,seval,e35];apply z;refine ⟨c15,Nat.lt_succ_self _,(IntKind.i64.wrap (v13+(1:Int))),hy14,?_⟩;simp only [go_sem,seval,e35]
 ·replace hy14:=zaL c19 hy14;refine zbK ?_
  try simp only [zaW,zaQ,↓reduceIte,zad]
  obtain rfl:=zah hy14;simp only [Sum.elim_inl] at h;refine zao fun _ z=>?_;simp only [go_sem,Nat.reduceAdd,c19];apply z;refine zaw ?_;obtain rfl:=zah h;refine ⟨by simp,?_⟩;simp only [go_sem,↓reduceIte,e18]
def zdy (f:zab->Int->Option ((List zaa) × zab)):Prop:=∀a0 a1 r,f a0 a1=some r->∀(q:Pa) (m:M) (vs:List V) (P0:Pa) (P1:Pa) (P2:Pa),vs.map V.weak1=[.ptr P0 0,.fn (.func 242) [] [.ptr P1 0,.ptr P2 0]]/\m.blk P0=some ((zab.C a0))/\m.blk P1=some ([.ptr P0 0])/\m.blk P2=some ([.lit (.int .i64 a1)])/\(P0=P1)=False/\(P0=P2)=False/\(P1=P0)=False/\(P1=P2)=False/\(P2=P0)=False/\(P2=P1)=False/\m.gl 3=.eptr [(cA cS zaX)] 0 0/\m.gl 5=.eptr [(cA (cA cS) zbc)] 0 0->SC Tryz.prog 96 vs q m (fun v m'=>v=.list .none (r.1.map zaa.C)/\m'=(m.set P0 ((zab.C r.2))))
def zd3 (f:zab->Int->Option (zaa × zab)):Prop:=∀a0 a1 r,f a0 a1=some r->∀(q:Pa) (m:M) (vs:List V) (P0:Pa),vs.map V.weak1=[.ptr P0 0,.lit (.int .i64 a1)]/\m.blk P0=some ((zab.C a0))/\m.gl 3=.eptr [(cA cS zaX)] 0 0/\m.gl 5=.eptr [(cA (cA cS) zbc)] 0 0->SC Tryz.prog 186 vs q m (fun v m'=>v=.agg ((zaa.C r.1))/\m'=(m.set P0 ((zab.C r.2))))
def zez (f:zab->Int->Int->Option (zaa × zab)):Prop:=∀a0 a1 a2 r,f a0 a1 a2=some r->∀(q:Pa) (m:M) (vs:List V) (P0:Pa),vs.map V.weak1=[.ptr P0 0,.lit (.int .i64 a1),.lit (.int .i64 a2)]/\m.blk P0=some ((zab.C a0))/\m.gl 3=.eptr [(cA cS zaX)] 0 0/\m.gl 5=.eptr [(cA (cA cS) zbc)] 0 0->SC Tryz.prog 213 vs q m (fun v m'=>v=.agg ((zaa.C r.1))/\m'=(m.set P0 ((zab.C r.2))))
def zed (f:zab->Int->Option (zaa × zab)):Prop:=∀a0 a1 r,f a0 a1=some r->∀(q:Pa) (m:M) (vs:List V) (P0:Pa),vs.map V.weak1=[.ptr P0 0,.lit (.int .i64 a1)]/\m.blk P0=some ((zab.C a0))/\m.gl 3=.eptr [(cA cS zaX)] 0 0/\m.gl 5=.eptr [(cA (cA cS) zbc)] 0 0->SC Tryz.prog 231 vs q m (fun v m'=>v=.agg ((zaa.C r.1))/\m'=(m.set P0 ((zab.C r.2))))
def zeD (f:zab->Int->Option (zaa × zab)):Prop:=∀a0 a1 r,f a0 a1=some r->∀(q:Pa) (m:M) (vs:List V) (P0:Pa) (P1:Pa) (P2:Pa),vs.map V.weak1=[.ptr P1 0,.ptr P2 0]/\m.blk P0=some ((zab.C a0))/\m.blk P1=some ([.ptr P0 0])/\m.blk P2=some ([.lit (.int .i64 a1)])/\(P0=P1)=False/\(P0=P2)=False/\(P1=P0)=False/\(P1=P2)=False/\(P2=P0)=False/\(P2=P1)=False/\m.gl 3=.eptr [(cA cS zaX)] 0 0/\m.gl 5=.eptr [(cA (cA cS) zbc)] 0 0->SC Tryz.prog 242 vs q m (fun v m'=>v=.agg ((zaa.C r.1))/\m'=(m.set P0 ((zab.C r.2))))
theorem zfL {zbv:zab->Int->Option (zaa × zab)} (zgU:zeD zbv) (n:Nat):zdy (zca zbv n):=by
 rintro a0 a1 r h q m vs P0 P1 P2 ⟨hv,hmP0,hmP1,hmP2,hn0_1,hn0_2,hn1_0,hn1_2,hn2_0,hn2_1,hg3,hg5⟩;refine SC.weak ?_;rw [hv];refine SC.apart hmP0 fun hpP0=>?_;refine SC.apart hmP1 fun hpP1=>?_;refine SC.apart hmP2 fun hpP2=>?_;have hmsP0:=za8 hmP0
 try simp only [go_sem] at hmP0 hmsP0
 skip
 try simp only [go_sem,seval,Int.reduceToNat,UInt8.reduceToNat] at hmP2
 refine SC_w Tryz.func96 rfl (fun xs w=>Tryz.call96 xs w) Tryz.ntmps96 (by kernel_rfl) Tryz.results96 ?_;unfold zca at h;refine zao fun _ z=>?_;simp only [go_sem];apply z;refine zao fun _ z=>?_;simp only [go_sem,Nat.reduceAdd];apply z;refine zai ?_;obtain ⟨x1,h2,h⟩:=bind_some h;refine zat fun _ z=>?_;simp only [go_sem,seval];refine SC.by_ (zaI n a0 ([40]:Str) _ h2 _ _ _ P0 (by simp only [go_sem,hmP0,hg3])) ?_;simp only [go_sem,Nat.reduceAdd];apply z;refine zai ?_;refine zai ?_;obtain ⟨x3,h4,h⟩:=bind_some h;refine zat fun _ z=>?_;simp only [go_sem,seval];refine SC.by_ (zaO n x1 ([41]:Str) _ h4 _ _ _ P0 (by simp only [go_sem,↓reduceIte,hg3])) ?_;simp only [go_sem,Nat.reduceAdd];apply z;refine zbN x3.1 (fun c5=>?_) (fun c5=>?_)
 ·replace h:=zaK c5 h;refine zao fun _ z=>?_;simp only [go_sem,Nat.reduceAdd,c5];apply z;refine zaw ?_
  try simp only [zaE]
  obtain rfl:=zah h;refine ⟨by simp,?_⟩;simp only [go_sem,↓reduceIte,zak,zay hpP0]
 ·replace h:=zaL c5 h;refine zaA ?_
  try simp only [zad]
  refine zai ?_;obtain ⟨y6,hy6,h⟩:=bind_some h;refine zbh 8 [] [] rfl (fun E' m'=>∃(oy6_5:Pa) (jy6_5:Nat),E' 0=.ptr P0 0/\E' 5=.list (.st (.anon oy6_5 jy6_5)) (y6.1.map zaa.C)/\m'.tok oy6_5 jy6_5=true/\q <:+ oy6_5/\m'.blk P0=some ((zab.C y6.2))/\m'.blk P1=some ([.ptr P0 0])/\m'.blk P2=some ([.lit (.int .i64 a1)])/\m'.gl=m.gl/\m.back q m'=(m.set P0 ((zab.C y6.2)))) ?_ ?_
  ·refine zaM ?_;obtain ⟨y10,hy10,hy6⟩:=bind_some hy6;refine zfp 5 ([].map zaa.C) rfl (by simp only [go_sem,seval,c5]) ?_;refine zbj [] [] rfl (fun c E' m'=>∃v8 v9 o_v8 j_v8,zbq zbv n a1 c v8 v9=some y10/\E' 0=.ptr P0 0/\E' 1=.fn (.func 242) [] [.ptr P1 0,.ptr P2 0]/\E' 5=.list (.st (.anon o_v8 j_v8)) (v8.map zaa.C)/\m'.tok o_v8 j_v8=true/\q <:+ o_v8/\m'.blk P0=some ((zab.C v9))/\m'.blk P1=some ([.ptr P0 0])/\m'.blk P2=some ([.lit (.int .i64 a1)])/\m'.gl=m.gl/\m.back q m'=(m.set P0 ((zab.C v9)))) n ⟨[],x3.2,(6::q),0,hy10,?_⟩ ?_
   ·simp only [go_sem,seval,zaH,zak,zay hpP0,hn1_0,hn2_0,c5,hmP1,hmP2]
   rintro i7 c11 E12 m13 ⟨v8,v9,o_v8,j_v8,hy10,e14⟩ _
   rcases c11 with _ | c11
   ·exact absurd hy10 (by rw [zbq];exact fun e=>nomatch e)
   rw [zbq] at hy10;refine zai ?_;refine zao fun _ z=>?_;simp only [go_sem,seval,e14];apply z;refine zbN (v9.e_ == (0:Int)) (fun c15=>?_) (fun c15=>?_)
   ·replace hy10:=zaK c15 hy10;refine zaA ?_
    try simp only [zad]
    refine zaM ?_;refine zai ?_;obtain ⟨x16,h17,hy10⟩:=bind_some hy10;obtain ⟨f18,hy10⟩:=zaT hy10;have f19:v8.length+1<=1073741824:=by first | omega | (simp only [List.length_append,List.length_cons,List.length_nil] at f18 ⊢;omega)
    have f20:v8.length<=1073741823:=by first | omega | (simp only [List.length_append,List.length_cons,List.length_nil] at f18 ⊢;omega)
    refine zat fun _ z=>?_;simp only [go_sem,seval,c15,e14];refine SC.by_ (zgU v9 a1 _ h17 _ _ _ P0 P1 P2 (by simp only [go_sem,hn0_1,hn0_2,hn1_0,hn1_2,hn2_0,hn2_1,e14,hg3,hg5])) ?_;simp only [go_sem,seval,f19,e14];apply z;refine zai ?_;obtain ⟨x21,h22,hy10⟩:=bind_some hy10;refine zat fun _ z=>?_;simp only [go_sem,seval,e14];refine SC.by_ (zaO n x16.2 ([44]:Str) _ h22 _ _ _ P0 (by simp only [go_sem,↓reduceIte,e14,hg3])) ?_;simp only [go_sem,seval];apply z;refine zbN (!x21.1) (fun c23=>?_) (fun c23=>?_)
    ·replace hy10:=zaK c23 hy10;refine zbK ?_
     try simp only [seval,zaW,zaQ,zad]
     obtain rfl:=zah hy10;obtain rfl:=zah hy6;refine ⟨by decide,(9::i7::7::q),0,?_⟩;simp only [go_sem,seval,zaH,zay hpP0,hn1_0,hn2_0,c23,e14]
    ·replace hy10:=zaL c23 hy10;refine zaA ?_
     try simp only [zad,zau]
     refine ⟨c11,Nat.lt_succ_self _,(v8++[x16.1]),x21.2,(9::i7::7::q),0,hy10,?_⟩;simp only [go_sem,seval,zaH,zay hpP0,hn1_0,hn2_0,c23,e14]
   ·replace hy10:=zaL c15 hy10;refine zbK ?_
    try simp only [zaW,zaQ,↓reduceIte,zad]
    obtain rfl:=zah hy10;obtain rfl:=zah hy6;refine ⟨by decide,o_v8,j_v8,?_⟩;simp only [go_sem,seval,c15,e14]
  ·rintro E24 m25 ⟨oy6_5,jy6_5,e26⟩ _;simp only [zad];refine zai ?_;obtain ⟨x27,h28,h⟩:=bind_some h;refine zat fun _ z=>?_;simp only [go_sem,seval,e26];refine SC.by_ (zaI n y6.2 ([41]:Str) _ h28 _ _ _ P0 (by simp only [go_sem,e26,hg3])) ?_;simp only [go_sem,Nat.reduceAdd];apply z;refine zao fun _ z=>?_;simp only [go_sem,seval,e26];apply z;refine zaw ?_;obtain rfl:=zah h;refine ⟨by simp,?_⟩;simp only [go_sem,↓reduceIte,zay hpP0,e26]
theorem zij {za9:zab->Int->Int->Option (zaa × zab)} (zdY:zez za9) (n:Nat):zd3 (zd2 za9 n):=by
 rintro a0 a1 r h q m vs P0 ⟨hv,hmP0,hg3,hg5⟩;refine SC.weak ?_;rw [hv];refine SC.apart hmP0 fun hpP0=>?_;have hmsP0:=za8 hmP0
 try simp only [go_sem] at hmP0 hmsP0
 refine SC_w Tryz.func186 rfl (fun xs w=>Tryz.call186 xs w) Tryz.ntmps186 (by kernel_rfl) Tryz.results186 ?_;unfold zd2 at h;refine zao fun _ z=>?_;simp only [go_sem];apply z;refine zai ?_;obtain ⟨x2,h3,h⟩:=bind_some h;refine zat fun _ z=>?_;simp only [go_sem,seval];refine SC.by_ (zdY a0 (0:Int) a1 _ h3 _ _ _ P0 (by simp only [go_sem,↓reduceIte,pz1 hpP0,hmP0,hg3,hg5])) ?_;simp only [go_sem,seval,pz1 hpP0];apply z;refine zaw ?_;obtain rfl:=zah h;refine ⟨by simp,?_⟩;simp only [go_sem,seval,zan,zak,zay hpP0]
theorem zhV {za5:zab->Int->Option (zaa × zab)} (zey:zed za5) {za9:zab->Int->Int->Option (zaa × zab)} (zdY:zez za9) (n:Nat):zez (zdE za5 za9 n):=by
 rintro a0 a1 a2 r h q m vs P0 ⟨hv,hmP0,hg3,hg5⟩;refine SC.weak ?_;rw [hv];refine SC.apart hmP0 fun hpP0=>?_;have hmsP0:=za8 hmP0
 try simp only [go_sem] at hmP0 hmsP0
 refine SC_w Tryz.func213 rfl (fun xs w=>Tryz.call213 xs w) Tryz.ntmps213 (by kernel_rfl) Tryz.results213 ?_;unfold zdE at h;refine zao fun _ z=>?_;simp only [go_sem];apply z;refine zai ?_;refine zao fun _ z=>?_;simp only [go_sem,seval];apply z;refine zbN (a1 == (7:Int)) (fun c2=>?_) (fun c2=>?_)
 ·replace h:=zaK c2 h;refine zai ?_;obtain ⟨x3,h4,h⟩:=bind_some h;refine zat fun _ z=>?_;simp only [go_sem,seval,c2];refine SC.by_ (zey a0 a2 _ h4 _ _ _ P0 (by simp only [go_sem,↓reduceIte,pz2 hpP0,hmP0,hg3,hg5])) ?_;simp only [go_sem,seval,pz2 hpP0];apply z;refine zaw ?_
  try simp only [zaE]
  obtain rfl:=zah h;refine ⟨by simp,?_⟩;simp only [go_sem,seval,zan,zak,zay hpP0]
 ·replace h:=zaL c2 h;refine zaA ?_
  try simp only [zad]
  refine zai ?_;obtain ⟨x5,h7,h⟩:=bind_some h;refine zat fun _ z=>?_;simp only [go_sem,seval,c2];refine SC.by_ (zdY a0 (IntKind.i64.wrap (a1+(1:Int))) a2 _ h7 _ _ _ P0 (by simp only [go_sem,↓reduceIte,pz2 hpP0,hmP0,hg3,hg5])) ?_;simp only [go_sem,seval];apply z;refine zai ?_;refine zai ?_;obtain ⟨x8,h9,h⟩:=bind_some h;refine zat fun _ z=>?_;simp only [go_sem,seval];refine SC.by_ (zgm n x5.2 a1 _ h9 _ _ _ P0 (by simp only [go_sem,↓reduceIte,pz2 hpP0,hg3,hg5])) ?_;simp only [go_sem,seval];apply z;refine zaM ?_;obtain ⟨y14,hy14,h⟩:=bind_some h;refine zbj [] [] rfl (fun c E' m'=>∃v11 v12 v13,zcw za9 n a1 a2 c v11 v12 v13=some y14/\E' 0=.ptr P0 0/\E' 1=.lit (.int .i64 a1)/\E' 2=.lit (.int .i64 a2)/\E' 6=.ptr (0::q) 0/\E' 7=.ptr (8::q) 0/\E' 8=.lit (.string (bs v11))/\m'.blk P0=some ((zab.C v12))/\m'.blk (0::q)=some ([.lit (.int .i64 (0:Int)),.lit (.int .i64 (0:Int)),.lit (.string (bs [])),.lit (.int .u32 (0:Int)),.list .self ([].map zaa.C)])/\m'.blk (8::q)=some ((zaa.C v13))/\m'.gl=m.gl/\m.back q m'=(m.set P0 ((zab.C v12)))) n ⟨x8,x5.2,x5.1,hy14,?_⟩ ?_
  ·simp only [go_sem,seval,zan,zak,zay hpP0,pz2 hpP0]
  rintro i10 c15 E16 m17 ⟨v11,v12,v13,hy14,e18⟩ _
  rcases c15 with _ | c15
  ·exact absurd hy14 (by rw [zcw];exact fun e=>nomatch e)
  rw [zcw] at hy14;refine zai ?_;refine zao fun _ z=>?_;simp only [go_sem,seval,e18];apply z;refine zcb (decide (v11 ≠ ([]:Str))) (by simp only [go_sem,↓reduceIte]) (fun c19=>?_) (fun c19=>?_)
  ·replace hy14:=zaK c19 hy14;refine zaA ?_
   try simp only [zad]
   refine zai ?_;refine zaM ?_;refine zai ?_;obtain ⟨x20,h22,hy14⟩:=bind_some hy14;refine zat fun _ z=>?_;simp only [go_sem,seval,c19,e18];refine SC.mono (zcc v12 (19:Int) _ h22 _ _ _ P0 (by simp only [go_sem,e18])) ?_;rintro _ _ ⟨o_x20,j_x20,s_x20,rfl,rfl⟩;replace s_x20:q <:+ o_x20:=List.IsSuffix.trans (by simp only [go_sem]) s_x20;simp only [go_sem,seval];apply z;refine zai ?_;obtain ⟨x23,h24,hy14⟩:=bind_some hy14;refine zat fun _ z=>?_;simp only [go_sem,seval,e18];refine SC.by_ (zaI n x20.2 v11 _ h24 _ _ _ P0 (by simp only [go_sem,↓reduceIte,pz2 hpP0,e18,hg3])) ?_;simp only [go_sem,Nat.reduceAdd];apply z;refine zai ?_;obtain ⟨x25,h26,hy14⟩:=bind_some hy14;refine zaU (tbl:=[0,0,0,0,8,0,60,126,1,381,1023,2047]) (ord:=[(2,0),(3,0),(4,0),(5,0),(6,0),(0,0),(8,0),(9,0),(1,2),(7,0),(10,0),(11,0)]) 21 rfl (by kernel_rfl) (by kernel_rfl) fun _ z=>?_;simp only [go_sem,seval,e18];refine zaR (zdY x23 (IntKind.i64.wrap (a1+(1:Int))) a2 _ h26 _ _ _ P0 (by simp only [go_sem,↓reduceIte,e18,hg3,hg5])) rfl ?_;simp only [go_sem,seval,pz2 hpP0,e18];apply z;simp only [zad];refine zao fun _ z=>?_;simp only [go_sem,seval,pz2 hpP0,e18];apply z;refine zao fun _ z=>?_;simp only [go_sem,seval,e18];apply z;refine zbN (a1 == (3:Int)) (fun c27=>?_) (fun c27=>?_)
   ·replace hy14:=zaK c27 hy14;refine zbK ?_
    try simp only [seval,zaW,zaQ,zad]
    obtain rfl:=zah hy14;refine zao fun _ z=>?_;simp only [go_sem,seval,pz2 hpP0,c27,e18];apply z;refine zaw ?_;obtain rfl:=zah h;refine ⟨by simp,?_⟩;simp only [go_sem,seval,zan,za6,zaH,zay hpP0,s_x20,e18]
   ·replace hy14:=zaL c27 hy14;refine zaA ?_
    try simp only [zad,zau]
    obtain ⟨x28,h29,hy14⟩:=bind_some hy14;refine zat fun _ z=>?_;simp only [go_sem,seval,c27,e18];refine SC.by_ (zgm n x25.2 a1 _ h29 _ _ _ P0 (by simp only [go_sem,↓reduceIte,pz2 hpP0,e18,hg3,hg5])) ?_;simp only [go_sem,seval];apply z;refine ⟨c15,Nat.lt_succ_self _,x28,x25.2,({ x20.1 with za7:=v11,zas:=[v13,x25.1] }:zaa),hy14,?_⟩;simp only [go_sem,seval,zan,za6,zaH,zay hpP0,pz2 hpP0,s_x20,e18]
  ·replace hy14:=zaL c19 hy14;refine zbK ?_
   try simp only [zaW,zaQ,↓reduceIte,zad]
   obtain rfl:=zah hy14;refine zao fun _ z=>?_;simp only [go_sem,seval,c19,e18];apply z;refine zaw ?_;obtain rfl:=zah h;refine ⟨by simp,?_⟩;simp only [go_sem,seval,zan,e18]
theorem zhm {zbD:zab->Int->Option (zaa × zab)} (zee:zd3 zbD) {za5:zab->Int->Option (zaa × zab)} (zey:zed za5) {zcA:zab->Int->Option ((List zaa) × zab)} (zfP:zdy zcA) (n:Nat):zed (zc8 zbD za5 zcA n):=by
 rintro a0 a1 r h q m vs P0 ⟨hv,hmP0,hg3,hg5⟩;refine SC.weak ?_;rw [hv];refine SC.apart hmP0 fun hpP0=>?_;have hmsP0:=za8 hmP0
 try simp only [go_sem] at hmP0 hmsP0
 refine SC_w Tryz.func231 rfl (fun xs w=>Tryz.call231 xs w) Tryz.ntmps231 (by kernel_rfl) Tryz.results231 ?_;unfold zc8 at h;refine zao fun _ z=>?_;simp only [go_sem,seval];apply z;refine zai ?_;obtain ⟨x4,h5,h⟩:=bind_some h;refine zat fun _ z=>?_;simp only [go_sem,seval];refine SC.by_ (zgn a0 a1 _ h5 _ _ _ P0 (by simp only [go_sem,↓reduceIte,pz2 hpP0,hmP0])) ?_;simp only [go_sem,Nat.reduceAdd];apply z;refine zai ?_;refine zai ?_;obtain ⟨x6,h7,h⟩:=bind_some h;refine zat fun _ z=>?_;simp only [go_sem,seval,pz2 hpP0];refine SC.by_ (zaO n x4 ([40]:Str) _ h7 _ _ _ P0 (by simp only [go_sem,↓reduceIte,hg3])) ?_;simp only [go_sem,Nat.reduceAdd];apply z;refine zbN x6.1 (fun c8=>?_) (fun c8=>?_)
 ·replace h:=zaK c8 h;refine zai ?_;obtain ⟨x9,h11,h⟩:=bind_some h;refine zat fun _ z=>?_;simp only [go_sem,seval,pz2 hpP0,c8];refine SC.by_ (zee x6.2 (IntKind.i64.wrap (a1+(1:Int))) _ h11 _ _ _ P0 (by simp only [go_sem,↓reduceIte,hg3,hg5])) ?_;simp only [go_sem,seval];apply z;refine zai ?_;obtain ⟨x12,h13,h⟩:=bind_some h;refine zat fun _ z=>?_;simp only [go_sem,seval,pz2 hpP0];refine SC.by_ (zaI n x9.2 ([41]:Str) _ h13 _ _ _ P0 (by simp only [go_sem,↓reduceIte,pz2 hpP0,hg3])) ?_;simp only [go_sem,Nat.reduceAdd];apply z;refine zao fun _ z=>?_;simp only [go_sem,seval,pz2 hpP0];apply z;refine zaw ?_
  try simp only [zaE]
  obtain rfl:=zah h;refine ⟨by simp,?_⟩;simp only [go_sem,seval,zan,zak,zay hpP0]
 ·replace h:=zaL c8 h;refine zaA ?_
  try simp only [zad]
  refine zai ?_;obtain ⟨x14,h16,h⟩:=bind_some h;refine zat fun _ z=>?_;simp only [go_sem,seval,pz2 hpP0,c8];refine SC.mono (zcc x6.2 (15:Int) _ h16 _ _ _ P0 (by simp only [go_sem,↓reduceIte])) ?_;rintro _ _ ⟨o_x14,j_x14,s_x14,rfl,rfl⟩;replace s_x14:q <:+ o_x14:=List.IsSuffix.trans (by simp only [go_sem]) s_x14;simp only [go_sem,seval];apply z;refine zai ?_;refine zao fun _ z=>?_;simp only [go_sem,seval];apply z;refine zaM ?_;obtain ⟨y22,hy22,h⟩:=bind_some h;refine zbj [] [] rfl (fun c E' m'=>∃v18 v19 v20 v21,zb7 za5 n a1 c v18 v19 v20 v21=some y22/\E' 2=.ptr (0::q) 0/\E' 3=.ptr (1::q) 0/\E' 4=.ptr (2::q) 0/\E' 6=.ptr (10::q) 0/\E' 23=.agg ((cA cS zdV))/\E' 24=.lit (.int .i64 v18)/\m'.blk P0=some ((zab.C v19))/\m'.blk (10::q)=some ([.lit (.int .i64 v20.za4),.lit (.int .i64 v20.At_),.lit (.string (bs v20.za7)),.lit (.int .u32 v20.Num_),.list .self (v20.zas.map zaa.C)])/\m'.blk (0::q)=some ([.ptr P0 0])/\m'.blk (1::q)=some ([.lit (.int .i64 a1)])/\m'.blk (2::q)=some ([.lit (.int .i64 v21.za4),.lit (.int .i64 v21.At_),.lit (.string (bs v21.za7)),.lit (.int .u32 v21.Num_),.list .self (v21.zas.map zaa.C)])/\m'.gl=m.gl/\m.back q m'=(m.set P0 ((zab.C v19)))) n ⟨(0:Int),x14.2,x14.1,(zaa.mk (0:Int) (0:Int) [] (0:Int) []),hy22,?_⟩ ?_
  ·(simp only [go_sem,seval,zan,za6,zaH,zak,zay hpP0,pz2 hpP0,s_x14]) <;> (try and_intros) <;> rfl
  rintro i17 c23 E24 m25 ⟨v18,v19,v20,v21,hy22,e26⟩ _
  rcases c23 with _ | c23
  ·exact absurd hy22 (by rw [zb7];exact fun e=>nomatch e)
  rw [zb7] at hy22;refine zao fun _ z=>?_;simp only [go_sem,e26];apply z;refine zai ?_;refine zcb (decide (v18<(2:Int))) (by simp only [go_sem,↓reduceIte]) (fun c27=>?_) (fun c27=>?_)
  ·replace hy22:=zaK c27 hy22;refine zaA ?_
   try simp only [zad]
   refine zai ?_;refine zaM ?_;refine zai ?_;obtain ⟨x28,h32,hy22⟩:=bind_some hy22;obtain ⟨f29,f30,f31⟩:=zaD h32;have f33:v18<(2:Int):=f30;obtain ⟨w34,d35⟩:=zk8 (f:=cS) (s:=1) (fun _ _=>rfl) f31;simp only [go_sem] at d35;have d36:List.drop (v18.toNat) [V.lit (.string (bs ([126]:Str))),V.lit (.string (bs ([45]:Str)))]=_:=d35;refine zat fun _ z=>?_;simp only [go_sem,seval,f29,f33,d35,e26];apply z;refine zai ?_;obtain ⟨x37,h38,hy22⟩:=bind_some hy22;refine zat fun _ z=>?_;simp only [go_sem,seval,e26];refine SC.by_ (zaO n v19 x28 _ h38 _ _ _ P0 (by simp only [go_sem,e26,hg3])) ?_;simp only [go_sem,Nat.reduceAdd];apply z;refine zbN x37.1 (fun c39=>?_) (fun c39=>?_)
   ·replace hy22:=zaK c39 hy22;refine zai ?_;obtain ⟨x40,h41,hy22⟩:=bind_some hy22;refine zat fun _ z=>?_;simp only [go_sem,seval,pz2 hpP0,c39,e26];refine SC.by_ (zey x37.2 (IntKind.i64.wrap (a1+(1:Int))) _ h41 _ _ _ P0 (by simp only [go_sem,↓reduceIte,e26,hg3,hg5])) ?_;simp only [go_sem,seval,pz2 hpP0,e26];apply z;refine zao fun _ z=>?_;simp only [go_sem,seval,pz2 hpP0,e26];apply z;refine zaw ?_
    try simp only [zaE,zaZ]
    obtain rfl:=zah hy22;simp only [Sum.elim_inr] at h;obtain rfl:=zah h;refine ⟨by simp,?_⟩;simp only [go_sem,seval,zan,za6,zay hpP0,e26]
   ·replace hy22:=zaL c39 hy22;refine zaA ?_
    try simp only [zad,zau]
    refine zat fun _ z=>?_;simp only [go_sem,seval,c39,e26];apply z;refine ⟨c23,Nat.lt_succ_self _,(IntKind.i64.wrap (v18+(1:Int))),x37.2,v20,v21,hy22,?_⟩
    (simp only [go_sem,seval,zay hpP0,pz2 hpP0,e26]) <;> (try and_intros) <;> rfl
  ·replace hy22:=zaL c27 hy22;refine zbK ?_
   try simp only [zaW,zaQ,↓reduceIte,zad]
   obtain rfl:=zah hy22;simp only [Sum.elim_inl] at h;refine zai ?_;refine zai ?_;obtain ⟨y42,hy42,h⟩:=bind_some h;refine zbh 26 [] [] rfl (fun E' m'=>E' 2=.ptr (0::q) 0/\E' 3=.ptr (1::q) 0/\E' 4=.ptr (2::q) 0/\E' 6=.ptr (10::q) 0/\E' 51=.lit (.bool y42)/\m'.blk P0=some ((zab.C v19))/\m'.blk (10::q)=some ([.lit (.int .i64 v20.za4),.lit (.int .i64 v20.At_),.lit (.string (bs v20.za7)),.lit (.int .u32 v20.Num_),.list .self (v20.zas.map zaa.C)])/\m'.blk (0::q)=some ([.ptr P0 0])/\m'.blk (1::q)=some ([.lit (.int .i64 a1)])/\m'.blk (2::q)=some ([.lit (.int .i64 v21.za4),.lit (.int .i64 v21.At_),.lit (.string (bs v21.za7)),.lit (.int .u32 v21.Num_),.list .self (v21.zas.map zaa.C)])/\m'.gl=m.gl/\m.back q m'=(m.set P0 ((zab.C v19)))) ?_ ?_
   ·rcases zbf (v19.e_ == (0:Int)) with c43 | c43
    ·replace hy42:=zaK c43 hy42;obtain ⟨x44,h45,hy42⟩:=bind_some hy42;refine zat fun _ z=>?_;simp only [go_sem,seval,c27,c43,e26];refine SC.by_ (zb1 v19 _ h45 _ _ _ P0 (by simp only [go_sem,e26])) ?_;simp only [go_sem,seval];apply z;obtain rfl:=zah hy42;refine ⟨by decide,?_⟩
     (simp only [go_sem,seval,e26]) <;> (try and_intros) <;> rfl
    ·replace hy42:=zaL c43 hy42;refine zat fun _ z=>?_;simp only [go_sem,seval,c27,c43,e26];apply z;obtain rfl:=zah hy42;refine ⟨by decide,?_⟩
     (simp only [go_sem,seval,e26]) <;> (try and_intros) <;> rfl
   ·intro E46 m47 e48 _;simp only [zad];refine zcb y42 (by simp only [go_sem,e48]) (fun c49=>?_) (fun c49=>?_)
    ·replace h:=zaK c49 h;refine zai ?_;obtain ⟨x50,h51,h⟩:=bind_some h;refine zat fun _ z=>?_;simp only [go_sem,seval,e48];refine SC.by_ (zfU v19 _ h51 _ _ _ P0 (by simp only [go_sem,e48])) ?_;simp only [go_sem,seval,pz2 hpP0,e48];apply z;refine zao fun _ z=>?_;simp only [go_sem,seval,pz2 hpP0,e48];apply z;refine zaw ?_
     try simp only [zaE]
     obtain rfl:=zah h;refine ⟨by simp,?_⟩;simp only [go_sem,seval,zan,zay hpP0,e48]
    ·replace h:=zaL c49 h;refine zaA ?_
     try simp only [zad]
     refine zai ?_;obtain ⟨x52,h53,h⟩:=bind_some h;refine zat fun _ z=>?_;simp only [go_sem,seval,e48];refine SC.by_ (zcd n v19 _ h53 _ _ _ P0 (by simp only [go_sem,e48,hg3])) ?_;simp only [go_sem,seval,pz2 hpP0,e48];apply z;refine zai ?_;obtain ⟨y54,hy54,h⟩:=bind_some h;refine zbh 47 [] [((10::q),4)] rfl (fun E' m'=>E' 4=.ptr (2::q) 0/\E' 6=.ptr (10::q) 0/\m'.blk P0=some ((zab.C y54.1))/\m'.blk (10::q)=some ((zaa.C y54.2))/\m'.blk (2::q)=some ([.lit (.int .i64 v21.za4),.lit (.int .i64 v21.At_),.lit (.string (bs v21.za7)),.lit (.int .u32 v21.Num_),.list .self (v21.zas.map zaa.C)])/\m'.gl=m.gl/\m.back q m'=(m.set P0 ((zab.C y54.1)))) ?_ ?_
     ·refine zaM ?_;refine zai ?_;obtain ⟨x55,h56,hy54⟩:=bind_some hy54;refine zat fun _ z=>?_;simp only [go_sem,seval,pz2 hpP0,e48];refine SC.by_ (zek n x52.2 ([40]:Str) _ h56 _ _ _ P0 (by simp only [go_sem,↓reduceIte,pz2 hpP0,e48,hg3])) ?_;simp only [go_sem,seval];apply z;refine zbN x55 (fun c57=>?_) (fun c57=>?_)
      ·replace hy54:=zaK c57 hy54;obtain ⟨x58,h59,hy54⟩:=bind_some hy54;refine zc1 fun _ z=>?_;simp only [go_sem,seval,pz2 hpP0,c57,e48];refine SC.by_ (zfP x52.2 a1 _ h59 _ _ _ P0 (0::q) (1::q) (by simp only [go_sem,seval,pz2 hpP0,e48,hg3,hg5])) ?_;simp only [go_sem,seval,pz2 hpP0,e48];apply z;simp only [zad,zau];obtain rfl:=zah hy54;refine ⟨by decide,?_⟩
       (simp only [go_sem,seval,zan,zay hpP0,pz2 hpP0,e48]) <;> (try and_intros) <;> rfl
      ·replace hy54:=zaL c57 hy54;refine zai ?_;obtain ⟨x60,h61,hy54⟩:=bind_some hy54;refine zat fun _ z=>?_;simp only [go_sem,seval,pz2 hpP0,c57,e48];refine SC.by_ (zaO n x52.2 ([91]:Str) _ h61 _ _ _ P0 (by simp only [go_sem,↓reduceIte,pz2 hpP0,e48,hg3])) ?_;simp only [go_sem,seval];apply z;refine zbN x60.1 (fun c62=>?_) (fun c62=>?_)
       ·replace hy54:=zaK c62 hy54;refine zai ?_;obtain ⟨x63,h64,hy54⟩:=bind_some hy54;refine zat fun _ z=>?_;simp only [go_sem,seval,pz2 hpP0,c62,e48];refine SC.by_ (zee x60.2 (IntKind.i64.wrap (a1+(1:Int))) _ h64 _ _ _ P0 (by simp only [go_sem,↓reduceIte,e48,hg3,hg5])) ?_;simp only [go_sem,seval,pz2 hpP0,e48];apply z;obtain ⟨x65,h66,hy54⟩:=bind_some hy54;refine zc1 fun _ z=>?_;simp only [go_sem,seval,pz2 hpP0,e48];refine SC.by_ (zaI n x63.2 ([93]:Str) _ h66 _ _ _ P0 (by simp only [go_sem,↓reduceIte,pz2 hpP0,e48,hg3])) ?_;simp only [go_sem,Nat.reduceAdd];apply z;simp only [zad,zau];obtain rfl:=zah hy54;refine ⟨by decide,?_⟩
        (simp only [go_sem,seval,zan,za6,zay hpP0,pz2 hpP0,e48]) <;> (try and_intros) <;> rfl
       ·replace hy54:=zaL c62 hy54;refine zaA ?_
        try simp only [zad,zau]
        obtain rfl:=zah hy54;refine ⟨by decide,?_⟩
        (simp only [go_sem,seval,zan,zay hpP0,pz2 hpP0,c62,e48]) <;> (try and_intros) <;> rfl
     ·intro E67 m68 e69 _;simp only [zad];refine zao fun _ z=>?_;simp only [go_sem,seval,e69];apply z;refine zaw ?_;obtain rfl:=zah h;refine ⟨by simp,?_⟩;simp only [go_sem,seval,zan,e69]
theorem zgS {zbD:zab->Int->Option (zaa × zab)} (zee:zd3 zbD) (n:Nat):zeD (zcQ zbD n):=by
 rintro a0 a1 r h q m vs P0 P1 P2 ⟨hv,hmP0,hmP1,hmP2,hn0_1,hn0_2,hn1_0,hn1_2,hn2_0,hn2_1,hg3,hg5⟩;refine SC.weak ?_;rw [hv];refine SC.apart hmP0 fun hpP0=>?_;refine SC.apart hmP1 fun hpP1=>?_;refine SC.apart hmP2 fun hpP2=>?_;have hmsP0:=za8 hmP0
 try simp only [go_sem] at hmP0 hmsP0
 skip
 try simp only [go_sem,seval,Int.reduceToNat,UInt8.reduceToNat] at hmP2
 refine SC_w Tryz.func242 rfl (fun xs w=>Tryz.call242 xs w) Tryz.ntmps242 (by kernel_rfl) Tryz.results242 ?_;unfold zcQ at h;refine zao fun _ z=>?_;simp only [go_sem];apply z;refine zai ?_;obtain ⟨x2,h3,h⟩:=bind_some h;refine zat fun _ z=>?_;simp only [go_sem,seval,pz1 hpP1,pz1 hpP2,hmP1,hmP2];refine SC.by_ (zee a0 (IntKind.i64.wrap (a1+(1:Int))) _ h3 _ _ _ P0 (by simp only [go_sem,↓reduceIte,pz1 hpP0,hmP0,hg3,hg5])) ?_;simp only [go_sem,seval,pz1 hpP0];apply z;refine zaw ?_;obtain rfl:=zah h;refine ⟨by simp,?_⟩;simp only [go_sem,seval,zan,zak,zay hpP0]
theorem zej:∀n,zdy (zgJ n)/\zd3 (zbI n)/\zez (zj9 n)/\zed (zjc n)/\zeD (zih n)
 | 0=>⟨fun _ _ _ h=>zbQ h,fun _ _ _ h=>zbQ h,fun _ _ _ _ h=>zbQ h,fun _ _ _ h=>zbQ h,fun _ _ _ h=>zbQ h⟩
 | n+1=>
   have ih:=zej n
   ⟨zfL ih.2.2.2.2 n,zij ih.2.2.1 n,zhV ih.2.2.2.1 ih.2.2.1 n,zhm ih.2.1 ih.2.2.2.1 ih.1 n,zgS ih.2.1 n⟩
theorem zbS (n:Nat):zd3 (zbI n):=(zej n).2.1
def zjd (f:zab->zaa->Int->Option (zaa × zab)):Prop:=∀a0 a1 a2 r,f a0 a1 a2=some r->∀(q:Pa) (m:M) (vs:List V) (P0:Pa),vs.map V.weak1=[.ptr P0 0,.agg ((zaa.C a1)),.lit (.int .i64 a2)]/\m.blk P0=some ((zab.C a0))/\m.gl 3=.eptr [(cA cS zaX)] 0 0/\m.gl 5=.eptr [(cA (cA cS) zbc)] 0 0->SC Tryz.prog 185 vs q m (fun v m'=>v=.agg ((zaa.C r.1))/\m'=(m.set P0 ((zab.C r.2))))
theorem zf6 (n:Nat):zjd (zdw n):=by
 rintro a0 a1 a2 r h q m vs P0 ⟨hv,hmP0,hg3,hg5⟩;refine SC.weak ?_;rw [hv];refine SC.apart hmP0 fun hpP0=>?_;have hmsP0:=za8 hmP0
 try simp only [go_sem] at hmP0 hmsP0
 refine SC_w Tryz.func185 rfl (fun xs w=>Tryz.call185 xs w) Tryz.ntmps185 (by kernel_rfl) Tryz.results185 ?_;unfold zdw at h;refine zao fun _ z=>?_;simp only [go_sem,Nat.reduceAdd];apply z;refine zai ?_;obtain ⟨x3,h4,h⟩:=bind_some h;refine zat fun _ z=>?_;simp only [go_sem,seval];refine SC.by_ (zcd n a0 _ h4 _ _ _ P0 (by simp only [go_sem,↓reduceIte,pz1 hpP0,hmP0,hg3])) ?_;simp only [go_sem,seval,pz1 hpP0];apply z;refine zai ?_;obtain ⟨x5,h6,h⟩:=bind_some h;refine zat fun _ z=>?_;simp only [go_sem,seval];refine SC.by_ (zaI n x3.2 ([61]:Str) _ h6 _ _ _ P0 (by simp only [go_sem,↓reduceIte,pz1 hpP0,hg3])) ?_;simp only [go_sem,Nat.reduceAdd];apply z;refine zai ?_;obtain ⟨x7,h8,h⟩:=bind_some h;refine zat fun _ z=>?_;simp only [go_sem,seval];refine SC.by_ (zbS n x5 a2 _ h8 _ _ _ P0 (by simp only [go_sem,↓reduceIte,hg3,hg5])) ?_;simp only [go_sem,seval,pz1 hpP0];apply z;refine zai ?_;obtain ⟨x9,h10,h⟩:=bind_some h;refine zat fun _ z=>?_;simp only [go_sem,seval];refine SC.by_ (zaI n x7.2 ([59]:Str) _ h10 _ _ _ P0 (by simp only [go_sem,↓reduceIte,pz1 hpP0,hg3])) ?_;simp only [go_sem,Nat.reduceAdd];apply z;refine zao fun _ z=>?_;simp only [go_sem,seval,pz1 hpP0];apply z;refine zaw ?_;obtain rfl:=zah h;refine ⟨by simp,?_⟩;simp only [go_sem,seval,zan,za6,zak,zay hpP0]
def zig (f:zab->Int->Option (zaa × zab)):Prop:=∀a0 a1 r,f a0 a1=some r->∀(q:Pa) (m:M) (vs:List V) (P0:Pa) (P1:Pa) (P2:Pa),vs.map V.weak1=[.ptr P1 0,.ptr P2 0]/\m.blk P0=some ((zab.C a0))/\m.blk P1=some ([.ptr P0 0])/\m.blk P2=some ([.lit (.int .i64 a1)])/\(P0=P1)=False/\(P0=P2)=False/\(P1=P0)=False/\(P1=P2)=False/\(P2=P0)=False/\(P2=P1)=False/\m.gl 3=.eptr [(cA cS zaX)] 0 0/\m.gl 5=.eptr [(cA (cA cS) zbc)] 0 0->SC Tryz.prog 214 vs q m (fun v m'=>v=.agg ((zaa.C r.1))/\m'=(m.set P0 ((zab.C r.2))))
theorem zhU (n:Nat):zig (zdD n):=by
 rintro a0 a1 r h q m vs P0 P1 P2 ⟨hv,hmP0,hmP1,hmP2,hn0_1,hn0_2,hn1_0,hn1_2,hn2_0,hn2_1,hg3,hg5⟩;refine SC.weak ?_;rw [hv];refine SC.apart hmP0 fun hpP0=>?_;refine SC.apart hmP1 fun hpP1=>?_;refine SC.apart hmP2 fun hpP2=>?_;have hmsP0:=za8 hmP0
 try simp only [go_sem] at hmP0 hmsP0
 skip
 try simp only [go_sem,seval,Int.reduceToNat,UInt8.reduceToNat] at hmP2
 refine SC_w Tryz.func214 rfl (fun xs w=>Tryz.call214 xs w) Tryz.ntmps214 (by kernel_rfl) Tryz.results214 ?_;unfold zdD at h;refine zao fun _ z=>?_;simp only [go_sem];apply z;refine zai ?_;obtain ⟨x2,h3,h⟩:=bind_some h;refine zat fun _ z=>?_;simp only [go_sem,seval,pz1 hpP1,pz1 hpP2,hmP1,hmP2];refine SC.by_ (zbS n a0 (IntKind.i64.wrap (a1+(2:Int))) _ h3 _ _ _ P0 (by simp only [go_sem,↓reduceIte,pz1 hpP0,hmP0,hg3,hg5])) ?_;simp only [go_sem,seval,pz1 hpP0];apply z;refine zaw ?_;obtain rfl:=zah h;refine ⟨by simp,?_⟩;simp only [go_sem,seval,zan,zak,zay hpP0]
def zgI (f:zab->Int->Option ((List zaa) × zab)):Prop:=∀a0 a1 r,f a0 a1=some r->∀(q:Pa) (m:M) (vs:List V) (P0:Pa) (P1:Pa) (P2:Pa),vs.map V.weak1=[.ptr P0 0,.fn (.func 214) [] [.ptr P1 0,.ptr P2 0]]/\m.blk P0=some ((zab.C a0))/\m.blk P1=some ([.ptr P0 0])/\m.blk P2=some ([.lit (.int .i64 a1)])/\(P0=P1)=False/\(P0=P2)=False/\(P1=P0)=False/\(P1=P2)=False/\(P2=P0)=False/\(P2=P1)=False/\m.gl 3=.eptr [(cA cS zaX)] 0 0/\m.gl 5=.eptr [(cA (cA cS) zbc)] 0 0->SC Tryz.prog 96 vs q m (fun v m'=>v=.list .none (r.1.map zaa.C)/\m'=(m.set P0 ((zab.C r.2))))
theorem zgs (n:Nat):zgI (zcG n):=by
 rintro a0 a1 r h q m vs P0 P1 P2 ⟨hv,hmP0,hmP1,hmP2,hn0_1,hn0_2,hn1_0,hn1_2,hn2_0,hn2_1,hg3,hg5⟩;refine SC.weak ?_;rw [hv];refine SC.apart hmP0 fun hpP0=>?_;refine SC.apart hmP1 fun hpP1=>?_;refine SC.apart hmP2 fun hpP2=>?_;have hmsP0:=za8 hmP0
 try simp only [go_sem] at hmP0 hmsP0
 skip
 try simp only [go_sem,seval,Int.reduceToNat,UInt8.reduceToNat] at hmP2
 refine SC_w Tryz.func96 rfl (fun xs w=>Tryz.call96 xs w) Tryz.ntmps96 (by kernel_rfl) Tryz.results96 ?_;unfold zcG at h;refine zao fun _ z=>?_;simp only [go_sem];apply z;refine zao fun _ z=>?_;simp only [go_sem,Nat.reduceAdd];apply z;refine zai ?_;obtain ⟨x1,h2,h⟩:=bind_some h;refine zat fun _ z=>?_;simp only [go_sem,seval];refine SC.by_ (zaI n a0 ([40]:Str) _ h2 _ _ _ P0 (by simp only [go_sem,hmP0,hg3])) ?_;simp only [go_sem,Nat.reduceAdd];apply z;refine zai ?_;refine zai ?_;obtain ⟨x3,h4,h⟩:=bind_some h;refine zat fun _ z=>?_;simp only [go_sem,seval];refine SC.by_ (zaO n x1 ([41]:Str) _ h4 _ _ _ P0 (by simp only [go_sem,↓reduceIte,hg3])) ?_;simp only [go_sem,Nat.reduceAdd];apply z;refine zbN x3.1 (fun c5=>?_) (fun c5=>?_)
 ·replace h:=zaK c5 h;refine zao fun _ z=>?_;simp only [go_sem,Nat.reduceAdd,c5];apply z;refine zaw ?_
  try simp only [zaE]
  obtain rfl:=zah h;refine ⟨by simp,?_⟩;simp only [go_sem,↓reduceIte,zak,zay hpP0]
 ·replace h:=zaL c5 h;refine zaA ?_
  try simp only [zad]
  refine zai ?_;obtain ⟨y6,hy6,h⟩:=bind_some h;refine zbh 8 [] [] rfl (fun E' m'=>∃(oy6_5:Pa) (jy6_5:Nat),E' 0=.ptr P0 0/\E' 5=.list (.st (.anon oy6_5 jy6_5)) (y6.1.map zaa.C)/\m'.tok oy6_5 jy6_5=true/\q <:+ oy6_5/\m'.blk P0=some ((zab.C y6.2))/\m'.blk P1=some ([.ptr P0 0])/\m'.blk P2=some ([.lit (.int .i64 a1)])/\m'.gl=m.gl/\m.back q m'=(m.set P0 ((zab.C y6.2)))) ?_ ?_
  ·refine zaM ?_;obtain ⟨y10,hy10,hy6⟩:=bind_some hy6;refine zfp 5 ([].map zaa.C) rfl (by simp only [go_sem,seval,c5]) ?_;refine zbj [] [] rfl (fun c E' m'=>∃v8 v9 o_v8 j_v8,zbz n a1 c v8 v9=some y10/\E' 0=.ptr P0 0/\E' 1=.fn (.func 214) [] [.ptr P1 0,.ptr P2 0]/\E' 5=.list (.st (.anon o_v8 j_v8)) (v8.map zaa.C)/\m'.tok o_v8 j_v8=true/\q <:+ o_v8/\m'.blk P0=some ((zab.C v9))/\m'.blk P1=some ([.ptr P0 0])/\m'.blk P2=some ([.lit (.int .i64 a1)])/\m'.gl=m.gl/\m.back q m'=(m.set P0 ((zab.C v9)))) n ⟨[],x3.2,(6::q),0,hy10,?_⟩ ?_
   ·simp only [go_sem,seval,zaH,zak,zay hpP0,hn1_0,hn2_0,c5,hmP1,hmP2]
   rintro i7 c11 E12 m13 ⟨v8,v9,o_v8,j_v8,hy10,e14⟩ _
   rcases c11 with _ | c11
   ·exact absurd hy10 (by rw [zbz];exact fun e=>nomatch e)
   rw [zbz] at hy10;refine zai ?_;refine zao fun _ z=>?_;simp only [go_sem,seval,e14];apply z;refine zbN (v9.e_ == (0:Int)) (fun c15=>?_) (fun c15=>?_)
   ·replace hy10:=zaK c15 hy10;refine zaA ?_
    try simp only [zad]
    refine zaM ?_;refine zai ?_;obtain ⟨x16,h17,hy10⟩:=bind_some hy10;obtain ⟨f18,hy10⟩:=zaT hy10;have f19:v8.length+1<=1073741824:=by first | omega | (simp only [List.length_append,List.length_cons,List.length_nil] at f18 ⊢;omega)
    have f20:v8.length<=1073741823:=by first | omega | (simp only [List.length_append,List.length_cons,List.length_nil] at f18 ⊢;omega)
    refine zat fun _ z=>?_;simp only [go_sem,seval,c15,e14];refine SC.by_ (zhU n v9 a1 _ h17 _ _ _ P0 P1 P2 (by simp only [go_sem,hn0_1,hn0_2,hn1_0,hn1_2,hn2_0,hn2_1,e14,hg3,hg5])) ?_;simp only [go_sem,seval,f19,e14];apply z;refine zai ?_;obtain ⟨x21,h22,hy10⟩:=bind_some hy10;refine zat fun _ z=>?_;simp only [go_sem,seval,e14];refine SC.by_ (zaO n x16.2 ([44]:Str) _ h22 _ _ _ P0 (by simp only [go_sem,↓reduceIte,e14,hg3])) ?_;simp only [go_sem,seval];apply z;refine zbN (!x21.1) (fun c23=>?_) (fun c23=>?_)
    ·replace hy10:=zaK c23 hy10;refine zbK ?_
     try simp only [seval,zaW,zaQ,zad]
     obtain rfl:=zah hy10;obtain rfl:=zah hy6;refine ⟨by decide,(9::i7::7::q),0,?_⟩;simp only [go_sem,seval,zaH,zay hpP0,hn1_0,hn2_0,c23,e14]
    ·replace hy10:=zaL c23 hy10;refine zaA ?_
     try simp only [zad,zau]
     refine ⟨c11,Nat.lt_succ_self _,(v8++[x16.1]),x21.2,(9::i7::7::q),0,hy10,?_⟩;simp only [go_sem,seval,zaH,zay hpP0,hn1_0,hn2_0,c23,e14]
   ·replace hy10:=zaL c15 hy10;refine zbK ?_
    try simp only [zaW,zaQ,↓reduceIte,zad]
    obtain rfl:=zah hy10;obtain rfl:=zah hy6;refine ⟨by decide,o_v8,j_v8,?_⟩;simp only [go_sem,seval,c15,e14]
  ·rintro E24 m25 ⟨oy6_5,jy6_5,e26⟩ _;simp only [zad];refine zai ?_;obtain ⟨x27,h28,h⟩:=bind_some h;refine zat fun _ z=>?_;simp only [go_sem,seval,e26];refine SC.by_ (zaI n y6.2 ([41]:Str) _ h28 _ _ _ P0 (by simp only [go_sem,e26,hg3])) ?_;simp only [go_sem,Nat.reduceAdd];apply z;refine zao fun _ z=>?_;simp only [go_sem,seval,e26];apply z;refine zaw ?_;obtain rfl:=zah h;refine ⟨by simp,?_⟩;simp only [go_sem,↓reduceIte,zay hpP0,e26]
def zja (f:zab->zaa->Int->Option (zaa × zab)):Prop:=∀a0 a1 a2 r,f a0 a1 a2=some r->∀(q:Pa) (m:M) (vs:List V) (P0:Pa),vs.map V.weak1=[.ptr P0 0,.agg ((zaa.C a1)),.lit (.int .i64 a2)]/\m.blk P0=some ((zab.C a0))/\m.gl 3=.eptr [(cA cS zaX)] 0 0/\m.gl 5=.eptr [(cA (cA cS) zbc)] 0 0->SC Tryz.prog 189 vs q m (fun v m'=>v=.agg ((zaa.C r.1))/\m'=(m.set P0 ((zab.C r.2))))
theorem ziH (n:Nat):zja (zeh n):=by
 rintro a0 a1 a2 r h q m vs P0 ⟨hv,hmP0,hg3,hg5⟩;refine SC.weak ?_;rw [hv];refine SC.apart hmP0 fun hpP0=>?_;have hmsP0:=za8 hmP0
 try simp only [go_sem] at hmP0 hmsP0
 refine SC_w Tryz.func189 rfl (fun xs w=>Tryz.call189 xs w) Tryz.ntmps189 (by kernel_rfl) Tryz.results189 ?_;unfold zeh at h;refine zao fun _ z=>?_;simp only [go_sem,seval];apply z;refine zai ?_;obtain ⟨x5,h6,h⟩:=bind_some h;refine zat fun _ z=>?_;simp only [go_sem,seval];refine SC.by_ (zcd n a0 _ h6 _ _ _ P0 (by simp only [go_sem,↓reduceIte,pz1 hpP0,hmP0,hg3])) ?_;simp only [go_sem,seval,pz1 hpP0];apply z;refine zai ?_;obtain ⟨y7,hy7,h⟩:=bind_some h;refine zbh 37 [] [((1::q),4)] rfl (fun E' m'=>E' 3=.ptr (0::q) 0/\E' 4=.ptr (1::q) 0/\E' 6=.ptr (3::q) 0/\m'.blk P0=some ((zab.C y7.1))/\m'.blk (0::q)=some ([.ptr P0 0])/\m'.blk (1::q)=some ((zaa.C y7.2))/\m'.blk (3::q)=some ([.lit (.int .i64 (0:Int)),.lit (.int .i64 (0:Int)),.lit (.string (bs [])),.lit (.int .u32 (0:Int)),.list .self ([].map zaa.C)])/\m'.gl=m.gl/\m.back q m'=(m.set P0 ((zab.C y7.1)))) ?_ ?_
 ·refine zaM ?_;refine zai ?_;obtain ⟨x8,h9,hy7⟩:=bind_some hy7;refine zat fun _ z=>?_;simp only [go_sem,seval,pz1 hpP0];refine SC.by_ (zek n x5.2 ([40]:Str) _ h9 _ _ _ P0 (by simp only [go_sem,↓reduceIte,pz1 hpP0,hg3])) ?_;simp only [go_sem,seval];apply z;refine zbN x8 (fun c10=>?_) (fun c10=>?_)
  ·replace hy7:=zaK c10 hy7;obtain ⟨x11,h12,hy7⟩:=bind_some hy7;refine zc1 fun _ z=>?_;simp only [go_sem,seval,pz1 hpP0,c10];refine SC.by_ (zgs n x5.2 a2 _ h12 _ _ _ P0 (0::q) (2::q) (by simp only [go_sem,seval,pz1 hpP0,hg3,hg5])) ?_;simp only [go_sem,seval,pz1 hpP0];apply z;simp only [zad,zau];obtain rfl:=zah hy7;refine ⟨by decide,?_⟩;simp only [go_sem,seval,zan,zak,zay hpP0,pz1 hpP0]
  ·replace hy7:=zaL c10 hy7;refine zai ?_;obtain ⟨x13,h14,hy7⟩:=bind_some hy7;refine zat fun _ z=>?_;simp only [go_sem,seval,pz1 hpP0,c10];refine SC.by_ (zaO n x5.2 ([91]:Str) _ h14 _ _ _ P0 (by simp only [go_sem,↓reduceIte,pz1 hpP0,hg3])) ?_;simp only [go_sem,seval];apply z;refine zbN x13.1 (fun c15=>?_) (fun c15=>?_)
   ·replace hy7:=zaK c15 hy7;refine zai ?_;obtain ⟨x16,h17,hy7⟩:=bind_some hy7;refine zat fun _ z=>?_;simp only [go_sem,seval,pz1 hpP0,c15];refine SC.by_ (zbS n x13.2 (IntKind.i64.wrap (a2+(2:Int))) _ h17 _ _ _ P0 (by simp only [go_sem,↓reduceIte,hg3,hg5])) ?_;simp only [go_sem,seval,pz1 hpP0];apply z;refine zai ?_;obtain ⟨x18,h19,hy7⟩:=bind_some hy7;refine zat fun _ z=>?_;simp only [go_sem,seval,pz1 hpP0];refine SC.by_ (zaI n x16.2 ([93]:Str) _ h19 _ _ _ P0 (by simp only [go_sem,↓reduceIte,pz1 hpP0,hg3])) ?_;simp only [go_sem,Nat.reduceAdd];apply z;refine zai ?_;obtain ⟨x20,h21,hy7⟩:=bind_some hy7;refine zat fun _ z=>?_;simp only [go_sem,seval,pz1 hpP0];refine SC.by_ (zaI n x18 ([61]:Str) _ h21 _ _ _ P0 (by simp only [go_sem,↓reduceIte,hg3])) ?_;simp only [go_sem,Nat.reduceAdd];apply z;obtain ⟨x22,h23,hy7⟩:=bind_some hy7;obtain ⟨f24,hy7⟩:=zaT hy7;refine zaU (tbl:=[0,1,0,0,8,28,60,127,255,511]) (ord:=[(2,0),(3,0),(4,0),(5,0),(0,0),(1,1),(6,0),(7,0),(8,0),(9,0)]) 37 rfl (by kernel_rfl) (by kernel_rfl) fun _ z=>?_;simp only [go_sem,seval,pz1 hpP0];refine zaR (zbS n x20 (IntKind.i64.wrap (a2+(1:Int))) _ h23 _ _ _ P0 (by simp only [go_sem,↓reduceIte,hg3,hg5])) rfl ?_;simp only [go_sem,seval,pz1 hpP0];apply z;simp only [zad,zau];obtain rfl:=zah hy7;refine ⟨by decide,?_⟩;simp only [go_sem,seval,zan,za6,zaH,zak,zay hpP0,pz1 hpP0]
   ·replace hy7:=zaL c15 hy7;refine zai ?_;obtain ⟨x25,h26,hy7⟩:=bind_some hy7;refine zat fun _ z=>?_;simp only [go_sem,seval,pz1 hpP0,c15];refine SC.by_ (zaI n x13.2 ([61]:Str) _ h26 _ _ _ P0 (by simp only [go_sem,↓reduceIte,hg3])) ?_;simp only [go_sem,Nat.reduceAdd];apply z;obtain ⟨x27,h28,hy7⟩:=bind_some hy7;refine zc1 fun _ z=>?_;simp only [go_sem,seval,pz1 hpP0];refine SC.by_ (zbS n x25 (IntKind.i64.wrap (a2+(1:Int))) _ h28 _ _ _ P0 (by simp only [go_sem,↓reduceIte,hg3,hg5])) ?_;simp only [go_sem,seval,pz1 hpP0];apply z;simp only [zad,zau];obtain rfl:=zah hy7;refine ⟨by decide,?_⟩;simp only [go_sem,seval,zan,za6,zak,zay hpP0,pz1 hpP0]
 ·intro E29 m30 e31 _;simp only [zad];refine zai ?_;obtain ⟨x32,h33,h⟩:=bind_some h;refine zat fun _ z=>?_;simp only [go_sem,seval,e31];refine SC.by_ (zaI n y7.1 ([59]:Str) _ h33 _ _ _ P0 (by simp only [go_sem,e31,hg3])) ?_;simp only [go_sem,Nat.reduceAdd];apply z;refine zao fun _ z=>?_;simp only [go_sem,seval,pz1 hpP0,e31];apply z;refine zaw ?_;obtain rfl:=zah h;refine ⟨by simp,?_⟩;simp only [go_sem,seval,zan,zay hpP0,e31]
def zdH (f:zab->Int->Option (zaa × zab)):Prop:=∀a0 a1 r,f a0 a1=some r->∀(q:Pa) (m:M) (vs:List V) (P0:Pa),vs.map V.weak1=[.ptr P0 0,.lit (.int .i64 a1)]/\m.blk P0=some ((zab.C a0))/\m.gl 3=.eptr [(cA cS zaX)] 0 0/\m.gl 5=.eptr [(cA (cA cS) zbc)] 0 0->SC Tryz.prog 98 vs q m (fun v m'=>v=.agg ((zaa.C r.1))/\m'=(m.set P0 ((zab.C r.2))))
def zeC (f:zab->Int->Option (zaa × zab)):Prop:=∀a0 a1 r,f a0 a1=some r->∀(q:Pa) (m:M) (vs:List V) (P0:Pa),vs.map V.weak1=[.ptr P0 0,.lit (.int .i64 a1)]/\m.blk P0=some ((zab.C a0))/\m.gl 3=.eptr [(cA cS zaX)] 0 0/\m.gl 5=.eptr [(cA (cA cS) zbc)] 0 0->SC Tryz.prog 150 vs q m (fun v m'=>v=.agg ((zaa.C r.1))/\m'=(m.set P0 ((zab.C r.2))))
def ze6 (f:zab->zaa->Int->Option (zaa × zab)):Prop:=∀a0 a1 a2 r,f a0 a1 a2=some r->∀(q:Pa) (m:M) (vs:List V) (P0:Pa),vs.map V.weak1=[.ptr P0 0,.agg ((zaa.C a1)),.lit (.int .i64 a2)]/\m.blk P0=some ((zab.C a0))/\m.gl 3=.eptr [(cA cS zaX)] 0 0/\m.gl 5=.eptr [(cA (cA cS) zbc)] 0 0->SC Tryz.prog 187 vs q m (fun v m'=>v=.agg ((zaa.C r.1))/\m'=(m.set P0 ((zab.C r.2))))
def zft (f:zab->zaa->Int->Option (zaa × zab)):Prop:=∀a0 a1 a2 r,f a0 a1 a2=some r->∀(q:Pa) (m:M) (vs:List V) (P0:Pa),vs.map V.weak1=[.ptr P0 0,.agg ((zaa.C a1)),.lit (.int .i64 a2)]/\m.blk P0=some ((zab.C a0))/\m.gl 3=.eptr [(cA cS zaX)] 0 0/\m.gl 5=.eptr [(cA (cA cS) zbc)] 0 0->SC Tryz.prog 188 vs q m (fun v m'=>v=.agg ((zaa.C r.1))/\m'=(m.set P0 ((zab.C r.2))))
theorem zhX {zbu:zab->Int->Option (zaa × zab)} (zgT:zeC zbu) (n:Nat):zdH (zdG zbu n):=by
 rintro a0 a1 r h q m vs P0 ⟨hv,hmP0,hg3,hg5⟩;refine SC.weak ?_;rw [hv];refine SC.apart hmP0 fun hpP0=>?_;have hmsP0:=za8 hmP0
 try simp only [go_sem] at hmP0 hmsP0
 refine SC_w Tryz.func98 rfl (fun xs w=>Tryz.call98 xs w) Tryz.ntmps98 (by kernel_rfl) Tryz.results98 ?_;unfold zdG at h;refine zao fun _ z=>?_;simp only [go_sem];apply z;refine zai ?_;obtain ⟨x2,h3,h⟩:=bind_some h;refine zat fun _ z=>?_;simp only [go_sem,seval];refine SC.by_ (zgn a0 a1 _ h3 _ _ _ P0 (by simp only [go_sem,↓reduceIte,pz2 hpP0,hmP0])) ?_;simp only [go_sem,Nat.reduceAdd];apply z;refine zai ?_;obtain ⟨x4,h6,h⟩:=bind_some h;refine zat fun _ z=>?_;simp only [go_sem,seval];refine SC.mono (zcc x2 (4:Int) _ h6 _ _ _ P0 (by simp only [go_sem,↓reduceIte])) ?_;rintro _ _ ⟨o_x4,j_x4,s_x4,rfl,rfl⟩;replace s_x4:q <:+ o_x4:=List.IsSuffix.trans (by simp only [go_sem]) s_x4;simp only [go_sem,seval];apply z;refine zai ?_;obtain ⟨x7,h8,h⟩:=bind_some h;refine zat fun _ z=>?_;simp only [go_sem,seval];refine SC.by_ (zaI n x4.2 ([123]:Str) _ h8 _ _ _ P0 (by simp only [go_sem,↓reduceIte,pz2 hpP0,hg3])) ?_;simp only [go_sem,Nat.reduceAdd];apply z;refine zai ?_;refine zaM ?_;obtain ⟨y12,hy12,h⟩:=bind_some h;refine zbj [] [] rfl (fun c E' m'=>∃v10 v11,zb2 zbu n a1 c v10 v11=some y12/\E' 0=.ptr P0 0/\E' 1=.lit (.int .i64 a1)/\E' 4=.ptr (0::q) 0/\E' 5=.ptr (6::q) 0/\m'.blk P0=some ((zab.C v10))/\m'.blk (0::q)=some ([.lit (.int .i64 (0:Int)),.lit (.int .i64 (0:Int)),.lit (.string (bs [])),.lit (.int .u32 (0:Int)),.list .self ([].map zaa.C)])/\m'.blk (6::q)=some ([.lit (.int .i64 v11.za4),.lit (.int .i64 v11.At_),.lit (.string (bs v11.za7)),.lit (.int .u32 v11.Num_),.list .self (v11.zas.map zaa.C)])/\m'.gl=m.gl/\m.back q m'=(m.set P0 ((zab.C v10)))) n ⟨x7,x4.1,hy12,?_⟩ ?_
 ·simp only [go_sem,seval,zan,za6,zaH,zak,zay hpP0,pz2 hpP0,s_x4]
 rintro i9 c13 E14 m15 ⟨v10,v11,hy12,e16⟩ _
 rcases c13 with _ | c13
 ·exact absurd hy12 (by rw [zb2];exact fun e=>nomatch e)
 rw [zb2] at hy12;refine zai ?_;refine zai ?_;obtain ⟨y17,hy17,hy12⟩:=bind_some hy12;refine zbh 10 [] [] rfl (fun E' m'=>E' 0=.ptr P0 0/\E' 1=.lit (.int .i64 a1)/\E' 4=.ptr (0::q) 0/\E' 5=.ptr (6::q) 0/\E' 22=.lit (.bool y17)/\m'.blk P0=some ((zab.C v10))/\m'.blk (0::q)=some ([.lit (.int .i64 (0:Int)),.lit (.int .i64 (0:Int)),.lit (.string (bs [])),.lit (.int .u32 (0:Int)),.list .self ([].map zaa.C)])/\m'.blk (6::q)=some ([.lit (.int .i64 v11.za4),.lit (.int .i64 v11.At_),.lit (.string (bs v11.za7)),.lit (.int .u32 v11.Num_),.list .self (v11.zas.map zaa.C)])/\m'.gl=m.gl/\m.back q m'=(m.set P0 ((zab.C v10)))) ?_ ?_
 ·rcases zbf (v10.e_ == (0:Int)) with c18 | c18
  ·replace hy17:=zaK c18 hy17;obtain ⟨x19,h20,hy17⟩:=bind_some hy17;refine zat fun _ z=>?_;simp only [go_sem,seval,c18,e16];refine SC.by_ (zek n v10 ([125]:Str) _ h20 _ _ _ P0 (by simp only [go_sem,e16,hg3])) ?_;simp only [go_sem,seval];apply z;obtain rfl:=zah hy17;refine ⟨by decide,?_⟩;simp only [go_sem,seval,e16]
  ·replace hy17:=zaL c18 hy17;refine zat fun _ z=>?_;simp only [go_sem,seval,c18,e16];apply z;obtain rfl:=zah hy17;refine ⟨by decide,?_⟩;simp only [go_sem,seval,e16]
 ·intro E21 m22 e23 _;simp only [zad];refine zcb y17 (by simp only [go_sem,e23]) (fun c24=>?_) (fun c24=>?_)
  ·replace hy12:=zaK c24 hy12;refine zaA ?_
   try simp only [zad]
   refine zaM ?_;obtain ⟨x25,h26,hy12⟩:=bind_some hy12;obtain ⟨f27,hy12⟩:=zaT hy12;have f28:v11.zas.length+1<=1073741824:=by first | omega | (simp only [List.length_append,List.length_cons,List.length_nil] at f27 ⊢;omega)
   have f29:v11.zas.length<=1073741823:=by first | omega | (simp only [List.length_append,List.length_cons,List.length_nil] at f27 ⊢;omega)
   refine zaU (tbl:=[0,1,0,0,12,28,63,127,255]) (ord:=[(2,0),(3,0),(4,0),(0,0),(1,1),(5,0),(6,0),(7,0),(8,0)]) 19 rfl (by kernel_rfl) (by kernel_rfl) fun _ z=>?_;simp only [go_sem,seval,e23];refine zaR (zgT v10 a1 _ h26 _ _ _ P0 (by simp only [go_sem,e23,hg3,hg5])) rfl ?_;simp only [go_sem,seval,pz2 hpP0,f28,e23];apply z;simp only [zad,zau];refine ⟨c13,Nat.lt_succ_self _,x25.2,({ v11 with zas:=(v11.zas++[x25.1]) }:zaa),hy12,?_⟩;simp only [go_sem,seval,zan,za6,zaH,zay hpP0,pz2 hpP0,e23]
  ·replace hy12:=zaL c24 hy12;refine zbK ?_
   try simp only [zaW,zaQ,↓reduceIte,zad]
   obtain rfl:=zah hy12;refine zai ?_;obtain ⟨x30,h31,h⟩:=bind_some h;refine zat fun _ z=>?_;simp only [go_sem,seval,e23];refine SC.by_ (zaI n v10 ([125]:Str) _ h31 _ _ _ P0 (by simp only [go_sem,e23,hg3])) ?_;simp only [go_sem,Nat.reduceAdd];apply z;refine zao fun _ z=>?_;simp only [go_sem,seval,pz2 hpP0,e23];apply z;refine zaw ?_;obtain rfl:=zah h;refine ⟨by simp,?_⟩;simp only [go_sem,seval,zan,zay hpP0,e23]
theorem zgR {zdS:zab->zaa->Int->Option (zaa × zab)} (zhL:ze6 zdS) {zeo:zab->zaa->Int->Option (zaa × zab)} (ziC:zft zeo) (n:Nat):zeC (zcP zdS zeo n):=by
 rintro a0 a1 r h q m vs P0 ⟨hv,hmP0,hg3,hg5⟩;refine SC.weak ?_;rw [hv];refine SC.apart hmP0 fun hpP0=>?_;have hmsP0:=za8 hmP0
 try simp only [go_sem] at hmP0 hmsP0
 refine SC_w Tryz.func150 rfl (fun xs w=>Tryz.call150 xs w) Tryz.ntmps150 (by kernel_rfl) Tryz.results150 ?_;unfold zcP at h;refine zao fun _ z=>?_;simp only [go_sem];apply z;refine zai ?_;obtain ⟨x2,h4,h⟩:=bind_some h;refine zat fun _ z=>?_;simp only [go_sem,seval];refine SC.mono (zcc a0 (8:Int) _ h4 _ _ _ P0 (by simp only [go_sem,↓reduceIte,pz1 hpP0,hmP0])) ?_;rintro _ _ ⟨o_x2,j_x2,s_x2,rfl,rfl⟩;replace s_x2:q <:+ o_x2:=List.IsSuffix.trans (by simp only [go_sem]) s_x2;simp only [go_sem,seval];apply z;refine zai ?_;obtain ⟨y5,hy5,h⟩:=bind_some h;refine zbh 26 [] [] rfl (fun E' m'=>∃(y5a:(zab × zaa)),y5=.inl y5a/\E' 0=.ptr P0 0/\E' 4=.ptr (0::q) 0/\E' 5=.ptr (3::q) 0/\m'.blk P0=some ((zab.C y5a.1))/\m'.blk (0::q)=some ([.lit (.int .i64 (0:Int)),.lit (.int .i64 (0:Int)),.lit (.string (bs [])),.lit (.int .u32 (0:Int)),.list .self ([].map zaa.C)])/\m'.blk (3::q)=some ([.lit (.int .i64 y5a.2.za4),.lit (.int .i64 y5a.2.At_),.lit (.string (bs y5a.2.za7)),.lit (.int .u32 y5a.2.Num_),.list .self (y5a.2.zas.map zaa.C)])/\m'.gl=m.gl/\m.back q m'=(m.set P0 ((zab.C y5a.1)))) ?_ ?_
 ·refine zaM ?_;refine zai ?_;obtain ⟨x6,h7,hy5⟩:=bind_some hy5;refine zat fun _ z=>?_;simp only [go_sem,seval];refine SC.by_ (zaO n x2.2 ([108,101,116]:Str) _ h7 _ _ _ P0 (by simp only [go_sem,↓reduceIte,pz1 hpP0,hg3])) ?_;simp only [go_sem,seval];apply z;refine zbN x6.1 (fun c8=>?_) (fun c8=>?_)
  ·replace hy5:=zaK c8 hy5;refine zao fun _ z=>?_;simp only [go_sem,seval,pz1 hpP0,c8];apply z;refine zai ?_;obtain ⟨x9,h10,hy5⟩:=bind_some hy5;refine zat fun _ z=>?_;simp only [go_sem,seval];refine SC.by_ (zf6 n x6.2 ({ x2.1 with za4:=(5:Int) }:zaa) (IntKind.i64.wrap (a1+(1:Int))) _ h10 _ _ _ P0 (by simp only [go_sem,↓reduceIte,pz1 hpP0,hg3,hg5])) ?_;simp only [go_sem,seval,pz1 hpP0];apply z;refine zaw ?_
   try simp only [zaE,zaZ]
   obtain rfl:=zah hy5;simp only [Sum.elim_inr] at h;obtain rfl:=zah h;refine ⟨by simp,?_⟩;simp only [go_sem,seval,zan,za6,zaH,zak,zay hpP0,s_x2]
  ·replace hy5:=zaL c8 hy5;refine zai ?_;obtain ⟨x11,h12,hy5⟩:=bind_some hy5;refine zat fun _ z=>?_;simp only [go_sem,seval,c8];refine SC.by_ (zaO n x6.2 ([118,97,114]:Str) _ h12 _ _ _ P0 (by simp only [go_sem,↓reduceIte,hg3])) ?_;simp only [go_sem,seval];apply z;refine zbN x11.1 (fun c13=>?_) (fun c13=>?_)
   ·replace hy5:=zaK c13 hy5;refine zao fun _ z=>?_;simp only [go_sem,seval,pz1 hpP0,c13];apply z;refine zai ?_;obtain ⟨x14,h15,hy5⟩:=bind_some hy5;refine zat fun _ z=>?_;simp only [go_sem,seval];refine SC.by_ (zf6 n x11.2 ({ x2.1 with za4:=(6:Int) }:zaa) (IntKind.i64.wrap (a1+(1:Int))) _ h15 _ _ _ P0 (by simp only [go_sem,↓reduceIte,pz1 hpP0,hg3,hg5])) ?_;simp only [go_sem,seval,pz1 hpP0];apply z;refine zaw ?_
    try simp only [zaE,zaZ]
    obtain rfl:=zah hy5;simp only [Sum.elim_inr] at h;obtain rfl:=zah h;refine ⟨by simp,?_⟩;simp only [go_sem,seval,zan,za6,zaH,zak,zay hpP0,s_x2]
   ·replace hy5:=zaL c13 hy5;refine zai ?_;obtain ⟨x16,h17,hy5⟩:=bind_some hy5;refine zat fun _ z=>?_;simp only [go_sem,seval,c13];refine SC.by_ (zaO n x11.2 ([97,114,114]:Str) _ h17 _ _ _ P0 (by simp only [go_sem,↓reduceIte,hg3])) ?_;simp only [go_sem,seval];apply z;refine zbN x16.1 (fun c18=>?_) (fun c18=>?_)
    ·replace hy5:=zaK c18 hy5;refine zai ?_;obtain ⟨x19,h20,hy5⟩:=bind_some hy5;refine zat fun _ z=>?_;simp only [go_sem,seval,c18];refine SC.by_ (zcd n x16.2 _ h20 _ _ _ P0 (by simp only [go_sem,↓reduceIte,hg3])) ?_;simp only [go_sem,seval,pz1 hpP0];apply z;obtain ⟨x21,h22,hy5⟩:=bind_some hy5;refine zc1 fun _ z=>?_;simp only [go_sem,seval];refine SC.by_ (zgl n x19.2 _ h22 _ _ _ P0 (by simp only [go_sem,↓reduceIte,pz1 hpP0,hg3])) ?_;simp only [go_sem,seval,pz1 hpP0];apply z;simp only [zad,zau];obtain rfl:=zah hy5;refine ⟨by decide,(x21.2,({ x2.1 with za4:=(7:Int),za7:=x19.1,Num_:=x21.1 }:zaa)),rfl,?_⟩;simp only [go_sem,seval,zan,za6,zaH,zak,zay hpP0,pz1 hpP0,s_x2]
    ·replace hy5:=zaL c18 hy5;refine zai ?_;obtain ⟨x23,h24,hy5⟩:=bind_some hy5;refine zat fun _ z=>?_;simp only [go_sem,seval,c18];refine SC.by_ (zaO n x16.2 ([114,101,116,117,114,110]:Str) _ h24 _ _ _ P0 (by simp only [go_sem,↓reduceIte,hg3])) ?_;simp only [go_sem,seval];apply z;refine zbN x23.1 (fun c25=>?_) (fun c25=>?_)
     ·replace hy5:=zaK c25 hy5;obtain ⟨x26,h27,hy5⟩:=bind_some hy5;refine zc1 fun _ z=>?_;simp only [go_sem,seval,c25];refine SC.by_ (zbS n x23.2 (IntKind.i64.wrap (a1+(1:Int))) _ h27 _ _ _ P0 (by simp only [go_sem,↓reduceIte,hg3,hg5])) ?_;simp only [go_sem,seval,pz1 hpP0];apply z;simp only [zad,zau];obtain rfl:=zah hy5;refine ⟨by decide,(x26.2,({ x2.1 with za4:=(13:Int),zas:=[x26.1] }:zaa)),rfl,?_⟩;simp only [go_sem,seval,zan,za6,zaH,zak,zay hpP0,pz1 hpP0,s_x2]
     ·replace hy5:=zaL c25 hy5;refine zai ?_;obtain ⟨x28,h29,hy5⟩:=bind_some hy5;refine zat fun _ z=>?_;simp only [go_sem,seval,c25];refine SC.by_ (zaO n x23.2 ([105,102]:Str) _ h29 _ _ _ P0 (by simp only [go_sem,↓reduceIte,hg3])) ?_;simp only [go_sem,seval];apply z;refine zbN x28.1 (fun c30=>?_) (fun c30=>?_)
      ·replace hy5:=zaK c30 hy5;refine zai ?_;obtain ⟨x31,h32,hy5⟩:=bind_some hy5;refine zat fun _ z=>?_;simp only [go_sem,seval,pz1 hpP0,c30];refine SC.by_ (zhL x28.2 x2.1 a1 _ h32 _ _ _ P0 (by simp only [go_sem,↓reduceIte,hg3,hg5])) ?_;simp only [go_sem,seval,pz1 hpP0];apply z;refine zaw ?_
       try simp only [zaE,zaZ]
       obtain rfl:=zah hy5;simp only [Sum.elim_inr] at h;obtain rfl:=zah h;refine ⟨by simp,?_⟩;simp only [go_sem,seval,zan,za6,zaH,zak,zay hpP0,s_x2]
      ·replace hy5:=zaL c30 hy5;refine zai ?_;obtain ⟨x33,h34,hy5⟩:=bind_some hy5;refine zat fun _ z=>?_;simp only [go_sem,seval,c30];refine SC.by_ (zaO n x28.2 ([102,111,114]:Str) _ h34 _ _ _ P0 (by simp only [go_sem,↓reduceIte,hg3])) ?_;simp only [go_sem,seval];apply z;refine zbN x33.1 (fun c35=>?_) (fun c35=>?_)
       ·replace hy5:=zaK c35 hy5;refine zai ?_;obtain ⟨x36,h37,hy5⟩:=bind_some hy5;refine zat fun _ z=>?_;simp only [go_sem,seval,pz1 hpP0,c35];refine SC.by_ (ziC x33.2 x2.1 a1 _ h37 _ _ _ P0 (by simp only [go_sem,↓reduceIte,hg3,hg5])) ?_;simp only [go_sem,seval,pz1 hpP0];apply z;refine zaw ?_
        try simp only [zaE,zaZ]
        obtain rfl:=zah hy5;simp only [Sum.elim_inr] at h;obtain rfl:=zah h;refine ⟨by simp,?_⟩;simp only [go_sem,seval,zan,za6,zaH,zak,zay hpP0,s_x2]
       ·replace hy5:=zaL c35 hy5;refine zai ?_;obtain ⟨x38,h39,hy5⟩:=bind_some hy5;refine zat fun _ z=>?_;simp only [go_sem,seval,pz1 hpP0,c35];refine SC.by_ (ziH n x33.2 x2.1 a1 _ h39 _ _ _ P0 (by simp only [go_sem,↓reduceIte,hg3,hg5])) ?_;simp only [go_sem,seval,pz1 hpP0];apply z;refine zaw ?_
        try simp only [zaE,zaZ]
        obtain rfl:=zah hy5;simp only [Sum.elim_inr] at h;obtain rfl:=zah h;refine ⟨by simp,?_⟩;simp only [go_sem,seval,zan,za6,zaH,zak,zay hpP0,s_x2]
 ·rintro E40 m41 ⟨y5a,rfl,e42⟩ _;simp only [Sum.elim_inl] at h;simp only [zad];refine zai ?_;obtain ⟨x43,h44,h⟩:=bind_some h;refine zat fun _ z=>?_;simp only [go_sem,seval,e42];refine SC.by_ (zaI n y5a.1 ([59]:Str) _ h44 _ _ _ P0 (by simp only [go_sem,e42,hg3])) ?_;simp only [go_sem,Nat.reduceAdd];apply z;refine zao fun _ z=>?_;simp only [go_sem,seval,pz1 hpP0,e42];apply z;refine zaw ?_;obtain rfl:=zah h;refine ⟨by simp,?_⟩;simp only [go_sem,seval,zan,zay hpP0,e42]
theorem zhD {zbs:zab->Int->Option (zaa × zab)} (zdZ:zdH zbs) (n:Nat):ze6 (zdn zbs n):=by
 rintro a0 a1 a2 r h q m vs P0 ⟨hv,hmP0,hg3,hg5⟩;refine SC.weak ?_;rw [hv];refine SC.apart hmP0 fun hpP0=>?_;have hmsP0:=za8 hmP0
 try simp only [go_sem] at hmP0 hmsP0
 refine SC_w Tryz.func187 rfl (fun xs w=>Tryz.call187 xs w) Tryz.ntmps187 (by kernel_rfl) Tryz.results187 ?_;unfold zdn at h;refine zao fun _ z=>?_;simp only [go_sem,Nat.reduceAdd];apply z;refine zai ?_;obtain ⟨x3,h4,h⟩:=bind_some h;refine zat fun _ z=>?_;simp only [go_sem,seval];refine SC.by_ (zbS n a0 (IntKind.i64.wrap (a2+(1:Int))) _ h4 _ _ _ P0 (by simp only [go_sem,↓reduceIte,pz1 hpP0,hmP0,hg3,hg5])) ?_;simp only [go_sem,seval,pz1 hpP0];apply z;refine zai ?_;obtain ⟨x5,h6,h⟩:=bind_some h;obtain ⟨f7,h⟩:=zaT h;refine zaU (tbl:=[0,1,0,0,8,28,60,127,255,511]) (ord:=[(2,0),(3,0),(4,0),(5,0),(0,0),(1,1),(6,0),(7,0),(8,0),(9,0)]) 21 rfl (by kernel_rfl) (by kernel_rfl) fun _ z=>?_;simp only [go_sem,seval];refine zaR (zdZ x3.2 (IntKind.i64.wrap (a2+(1:Int))) _ h6 _ _ _ P0 (by simp only [go_sem,↓reduceIte,pz1 hpP0,hg3,hg5])) rfl ?_;simp only [go_sem,seval,pz1 hpP0];apply z;simp only [zad];refine zai ?_;refine zai ?_;obtain ⟨x8,h9,h⟩:=bind_some h;refine zat fun _ z=>?_;simp only [go_sem,seval];refine SC.by_ (zaO n x5.2 ([101,108,115,101]:Str) _ h9 _ _ _ P0 (by simp only [go_sem,↓reduceIte,pz1 hpP0,hg3])) ?_;simp only [go_sem,Nat.reduceAdd];apply z;refine zbN x8.1 (fun c10=>?_) (fun c10=>?_)
 ·replace h:=zaK c10 h;obtain ⟨x11,h12,h⟩:=bind_some h;obtain ⟨f13,h⟩:=zaT h;have f14:1+1+1<=1073741824:=by first | omega | (simp only [List.length_append,List.length_cons,List.length_nil] at f13 ⊢;omega)
  refine zaU (tbl:=[0,1,0,0,8,28,60,127,255,511]) (ord:=[(2,0),(3,0),(4,0),(5,0),(0,0),(1,1),(6,0),(7,0),(8,0),(9,0)]) 33 rfl (by kernel_rfl) (by kernel_rfl) fun _ z=>?_;simp only [go_sem,seval,c10];refine zaR (zdZ x8.2 (IntKind.i64.wrap (a2+(1:Int))) _ h12 _ _ _ P0 (by simp only [go_sem,↓reduceIte,hg3,hg5])) rfl ?_;simp only [go_sem,seval,pz1 hpP0,f14];apply z;simp only [zad];refine zao fun _ z=>?_;simp only [go_sem,seval,pz1 hpP0];apply z;refine zaw ?_;obtain rfl:=zah h;refine ⟨by simp,?_⟩;simp only [go_sem,seval,zan,za6,zaH,zak,zay hpP0]
 ·replace h:=zaL c10 h;refine zaA ?_
  try simp only [zad]
  refine zao fun _ z=>?_;simp only [go_sem,seval,pz1 hpP0,c10];apply z;refine zaw ?_;obtain rfl:=zah h;refine ⟨by simp,?_⟩;simp only [go_sem,seval,zan,za6,zaH,zak,zay hpP0]
theorem zii {zbs:zab->Int->Option (zaa × zab)} (zdZ:zdH zbs) (n:Nat):zft (zd1 zbs n):=by
 rintro a0 a1 a2 r h q m vs P0 ⟨hv,hmP0,hg3,hg5⟩;refine SC.weak ?_;rw [hv];refine SC.apart hmP0 fun hpP0=>?_;have hmsP0:=za8 hmP0
 try simp only [go_sem] at hmP0 hmsP0
 refine SC_w Tryz.func188 rfl (fun xs w=>Tryz.call188 xs w) Tryz.ntmps188 (by kernel_rfl) Tryz.results188 ?_;unfold zd1 at h;refine zao fun _ z=>?_;simp only [go_sem,Nat.reduceAdd];apply z;refine zai ?_;obtain ⟨x3,h4,h⟩:=bind_some h;refine zat fun _ z=>?_;simp only [go_sem,seval];refine SC.by_ (zcd n a0 _ h4 _ _ _ P0 (by simp only [go_sem,↓reduceIte,pz1 hpP0,hmP0,hg3])) ?_;simp only [go_sem,seval,pz1 hpP0];apply z;refine zai ?_;obtain ⟨x5,h6,h⟩:=bind_some h;refine zat fun _ z=>?_;simp only [go_sem,seval];refine SC.by_ (zaI n x3.2 ([105,110]:Str) _ h6 _ _ _ P0 (by simp only [go_sem,↓reduceIte,pz1 hpP0,hg3])) ?_;simp only [go_sem,Nat.reduceAdd];apply z;refine zai ?_;obtain ⟨x7,h8,h⟩:=bind_some h;refine zat fun _ z=>?_;simp only [go_sem,seval];refine SC.by_ (zbS n x5 (IntKind.i64.wrap (a2+(1:Int))) _ h8 _ _ _ P0 (by simp only [go_sem,↓reduceIte,hg3,hg5])) ?_;simp only [go_sem,seval,pz1 hpP0];apply z;refine zai ?_;obtain ⟨x9,h10,h⟩:=bind_some h;refine zat fun _ z=>?_;simp only [go_sem,seval];refine SC.by_ (zaI n x7.2 ([46,46]:Str) _ h10 _ _ _ P0 (by simp only [go_sem,↓reduceIte,pz1 hpP0,hg3])) ?_;simp only [go_sem,Nat.reduceAdd];apply z;refine zai ?_;obtain ⟨x11,h12,h⟩:=bind_some h;obtain ⟨f13,h⟩:=zaT h;refine zaU (tbl:=[0,1,0,0,8,28,60,127,255,511]) (ord:=[(2,0),(3,0),(4,0),(5,0),(0,0),(1,1),(6,0),(7,0),(8,0),(9,0)]) 29 rfl (by kernel_rfl) (by kernel_rfl) fun _ z=>?_;simp only [go_sem,seval];refine zaR (zbS n x9 (IntKind.i64.wrap (a2+(1:Int))) _ h12 _ _ _ P0 (by simp only [go_sem,↓reduceIte,hg3,hg5])) rfl ?_;simp only [go_sem,seval,pz1 hpP0];apply z;simp only [zad];refine zai ?_;obtain ⟨x14,h15,h⟩:=bind_some h;obtain ⟨f16,h⟩:=zaT h;have f17:1+1+1<=1073741824:=by first | omega | (simp only [List.length_append,List.length_cons,List.length_nil] at f16 ⊢;omega)
 refine zaU (tbl:=[0,1,0,0,8,28,60,127,255,511]) (ord:=[(2,0),(3,0),(4,0),(5,0),(0,0),(1,1),(6,0),(7,0),(8,0),(9,0)]) 39 rfl (by kernel_rfl) (by kernel_rfl) fun _ z=>?_;simp only [go_sem,seval];refine zaR (zdZ x11.2 (IntKind.i64.wrap (a2+(1:Int))) _ h15 _ _ _ P0 (by simp only [go_sem,↓reduceIte,pz1 hpP0,hg3,hg5])) rfl ?_;simp only [go_sem,seval,pz1 hpP0,f17];apply z;simp only [zad];refine zao fun _ z=>?_;simp only [go_sem,seval,pz1 hpP0];apply z;refine zaw ?_;obtain rfl:=zah h;refine ⟨by simp,?_⟩;simp only [go_sem,seval,zan,za6,zaH,zak,zay hpP0]
theorem zfu:∀n,zdH (zbB n)/\zeC (zif n)/\ze6 (zjG n)/\zft (zkq n)
 | 0=>⟨fun _ _ _ h=>zbQ h,fun _ _ _ h=>zbQ h,fun _ _ _ _ h=>zbQ h,fun _ _ _ _ h=>zbQ h⟩
 | n+1=>
   have ih:=zfu n
   ⟨zhX ih.2.1 n,zgR ih.2.2.1 ih.2.2.2 n,zhD ih.1 n,zii ih.1 n⟩
theorem zcM (n:Nat):zdH (zbB n):=(zfu n).1
def zhW (f:zab->Option (zaa × zab)):Prop:=∀a0 r,f a0=some r->∀(q:Pa) (m:M) (vs:List V) (P0:Pa),vs.map V.weak1=[.ptr P0 0]/\m.blk P0=some ((zab.C a0))/\m.gl 3=.eptr [(cA cS zaX)] 0 0/\m.gl 5=.eptr [(cA (cA cS) zbc)] 0 0->SC Tryz.prog 65 vs q m (fun v m'=>v=.agg ((zaa.C r.1))/\m'=(m.set P0 ((zab.C r.2))))
theorem zhC (n:Nat):zhW (zdm n):=by
 rintro a0 r h q m vs P0 ⟨hv,hmP0,hg3,hg5⟩;refine SC.weak ?_;rw [hv];refine SC.apart hmP0 fun hpP0=>?_;have hmsP0:=za8 hmP0
 try simp only [go_sem] at hmP0 hmsP0
 refine SC_w Tryz.func65 rfl (fun xs w=>Tryz.call65 xs w) Tryz.ntmps65 (by kernel_rfl) Tryz.results65 ?_;unfold zdm at h;refine zao fun _ z=>?_;simp only [go_sem];apply z;refine zai ?_;obtain ⟨x2,h4,h⟩:=bind_some h;refine zat fun _ z=>?_;simp only [go_sem,seval];refine SC.mono (zcc a0 (2:Int) _ h4 _ _ _ P0 (by simp only [go_sem,↓reduceIte,pz1 hpP0,hmP0])) ?_;rintro _ _ ⟨o_x2,j_x2,s_x2,rfl,rfl⟩;replace s_x2:q <:+ o_x2:=List.IsSuffix.trans (by simp only [go_sem]) s_x2;simp only [go_sem,seval];apply z;refine zai ?_;refine zai ?_;obtain ⟨x5,h6,h⟩:=bind_some h;refine zat fun _ z=>?_;simp only [go_sem,seval];refine SC.by_ (zaO n x2.2 ([101,120,112,111,114,116]:Str) _ h6 _ _ _ P0 (by simp only [go_sem,↓reduceIte,pz1 hpP0,hg3])) ?_;simp only [go_sem,Nat.reduceAdd];apply z;refine zbN x5.1 (fun c7=>?_) (fun c7=>?_)
 ·replace h:=zaK c7 h;refine zat fun _ z=>?_;simp only [go_sem,seval,pz1 hpP0,c7];apply z;refine zai ?_;obtain ⟨x8,h9,h⟩:=bind_some h;refine zat fun _ z=>?_;simp only [go_sem,seval];refine SC.by_ (zaI n x5.2 ([102,110]:Str) _ h9 _ _ _ P0 (by simp only [go_sem,↓reduceIte,pz1 hpP0,hg3])) ?_;simp only [go_sem,Nat.reduceAdd];apply z;refine zai ?_;obtain ⟨x10,h11,h⟩:=bind_some h;refine zat fun _ z=>?_;simp only [go_sem,seval];refine SC.by_ (zcd n x8 _ h11 _ _ _ P0 (by simp only [go_sem,↓reduceIte,hg3])) ?_;simp only [go_sem,seval,pz1 hpP0];apply z;refine zai ?_;obtain ⟨x12,h13,h⟩:=bind_some h;refine zat fun _ z=>?_;simp only [go_sem,seval];refine SC.mono (zff n x10.2 _ h13 _ _ _ P0 (by simp only [go_sem,↓reduceIte,pz1 hpP0,hg3])) ?_;rintro _ _ ⟨o_x12,j_x12,s_x12,rfl,rfl⟩;replace s_x12:q <:+ o_x12:=List.IsSuffix.trans (by simp only [go_sem]) s_x12;simp only [go_sem,seval,pz1 hpP0];apply z;refine zai ?_;refine zai ?_;obtain ⟨x14,h15,h⟩:=bind_some h;refine zat fun _ z=>?_;simp only [go_sem,seval];refine SC.by_ (zaO n x12.2 ([45,62]:Str) _ h15 _ _ _ P0 (by simp only [go_sem,↓reduceIte,pz1 hpP0,hg3])) ?_;simp only [go_sem,Nat.reduceAdd];apply z;refine zbN x14.1 (fun c16=>?_) (fun c16=>?_)
  ·replace h:=zaK c16 h;refine zaM ?_;refine zai ?_;obtain ⟨x17,h18,h⟩:=bind_some h;refine zat fun _ z=>?_;simp only [go_sem,seval,c16];refine SC.by_ (zaO n x14.2 ([117,51,50]:Str) _ h18 _ _ _ P0 (by simp only [go_sem,↓reduceIte,hg3])) ?_;simp only [go_sem,seval];apply z;refine zbN x17.1 (fun c19=>?_) (fun c19=>?_)
   ·replace h:=zaK c19 h;refine zc1 fun _ z=>?_;simp only [go_sem,seval,pz1 hpP0,c19];apply z;simp only [zad,zau];refine zai ?_;obtain ⟨x20,h21,h⟩:=bind_some h;obtain ⟨f22,h⟩:=zaT h;have f23:x12.1.length+1<=1073741824:=by first | omega | (simp only [List.length_append,List.length_cons,List.length_nil] at f22 ⊢;omega)
    have f24:x12.1.length<=1073741823:=by first | omega | (simp only [List.length_append,List.length_cons,List.length_nil] at f22 ⊢;omega)
    refine zaU (tbl:=[0,1,0,4,12,31,63,127]) (ord:=[(2,0),(3,0),(0,0),(1,1),(4,0),(5,0),(6,0),(7,0)]) 39 rfl (by kernel_rfl) (by kernel_rfl) fun _ z=>?_;simp only [go_sem,seval];refine zaR (zcM n x17.2 (1:Int) _ h21 _ _ _ P0 (by simp only [go_sem,↓reduceIte,pz1 hpP0,hg3,hg5])) rfl ?_;simp only [go_sem,seval,pz1 hpP0,f23];apply z;simp only [zad];refine zao fun _ z=>?_;simp only [go_sem,seval,pz1 hpP0];apply z;refine zaw ?_;obtain rfl:=zah h;refine ⟨by simp,?_⟩;simp only [go_sem,seval,zan,za6,zaH,zak,zay hpP0,s_x2,s_x12]
   ·replace h:=zaL c19 h;refine zai ?_;obtain ⟨x25,h26,h⟩:=bind_some h;refine zat fun _ z=>?_;simp only [go_sem,seval,c19];refine SC.by_ (zaI n x17.2 ([117,54,52]:Str) _ h26 _ _ _ P0 (by simp only [go_sem,↓reduceIte,hg3])) ?_;simp only [go_sem,Nat.reduceAdd];apply z;refine zc1 fun _ z=>?_;simp only [go_sem,seval,pz1 hpP0];apply z;simp only [zad,zau];refine zai ?_;obtain ⟨x27,h28,h⟩:=bind_some h;obtain ⟨f29,h⟩:=zaT h;have f30:x12.1.length+1<=1073741824:=by first | omega | (simp only [List.length_append,List.length_cons,List.length_nil] at f29 ⊢;omega)
    have f31:x12.1.length<=1073741823:=by first | omega | (simp only [List.length_append,List.length_cons,List.length_nil] at f29 ⊢;omega)
    refine zaU (tbl:=[0,1,0,4,12,31,63,127]) (ord:=[(2,0),(3,0),(0,0),(1,1),(4,0),(5,0),(6,0),(7,0)]) 41 rfl (by kernel_rfl) (by kernel_rfl) fun _ z=>?_;simp only [go_sem,seval];refine zaR (zcM n x25 (1:Int) _ h28 _ _ _ P0 (by simp only [go_sem,↓reduceIte,pz1 hpP0,hg3,hg5])) rfl ?_;simp only [go_sem,seval,pz1 hpP0,f30];apply z;simp only [zad];refine zao fun _ z=>?_;simp only [go_sem,seval,pz1 hpP0];apply z;refine zaw ?_;obtain rfl:=zah h;refine ⟨by simp,?_⟩;simp only [go_sem,seval,zan,za6,zaH,zak,zay hpP0,s_x2,s_x12]
  ·replace h:=zaL c16 h;refine zaA ?_
   try simp only [zad]
   refine zai ?_;obtain ⟨x32,h33,h⟩:=bind_some h;obtain ⟨f34,h⟩:=zaT h;have f35:x12.1.length+1<=1073741824:=by first | omega | (simp only [List.length_append,List.length_cons,List.length_nil] at f34 ⊢;omega)
   have f36:x12.1.length<=1073741823:=by first | omega | (simp only [List.length_append,List.length_cons,List.length_nil] at f34 ⊢;omega)
   refine zaU (tbl:=[0,1,0,4,12,31,63,127]) (ord:=[(2,0),(3,0),(0,0),(1,1),(4,0),(5,0),(6,0),(7,0)]) 31 rfl (by kernel_rfl) (by kernel_rfl) fun _ z=>?_;simp only [go_sem,seval,c16];refine zaR (zcM n x14.2 (1:Int) _ h33 _ _ _ P0 (by simp only [go_sem,↓reduceIte,hg3,hg5])) rfl ?_;simp only [go_sem,seval,pz1 hpP0,f35];apply z;simp only [zad];refine zao fun _ z=>?_;simp only [go_sem,seval,pz1 hpP0];apply z;refine zaw ?_;obtain rfl:=zah h;refine ⟨by simp,?_⟩;simp only [go_sem,seval,zan,za6,zaH,zak,zay hpP0,s_x2,s_x12]
 ·replace h:=zaL c7 h;refine zaA ?_
  try simp only [zad]
  refine zai ?_;obtain ⟨x37,h38,h⟩:=bind_some h;refine zat fun _ z=>?_;simp only [go_sem,seval,c7];refine SC.by_ (zaI n x5.2 ([102,110]:Str) _ h38 _ _ _ P0 (by simp only [go_sem,↓reduceIte,hg3])) ?_;simp only [go_sem,Nat.reduceAdd];apply z;refine zai ?_;obtain ⟨x39,h40,h⟩:=bind_some h;refine zat fun _ z=>?_;simp only [go_sem,seval];refine SC.by_ (zcd n x37 _ h40 _ _ _ P0 (by simp only [go_sem,↓reduceIte,hg3])) ?_;simp only [go_sem,seval,pz1 hpP0];apply z;refine zai ?_;obtain ⟨x41,h42,h⟩:=bind_some h;refine zat fun _ z=>?_;simp only [go_sem,seval];refine SC.mono (zff n x39.2 _ h42 _ _ _ P0 (by simp only [go_sem,↓reduceIte,pz1 hpP0,hg3])) ?_;rintro _ _ ⟨o_x41,j_x41,s_x41,rfl,rfl⟩;replace s_x41:q <:+ o_x41:=List.IsSuffix.trans (by simp only [go_sem]) s_x41;simp only [go_sem,seval,pz1 hpP0];apply z;refine zai ?_;refine zai ?_;obtain ⟨x43,h44,h⟩:=bind_some h;refine zat fun _ z=>?_;simp only [go_sem,seval];refine SC.by_ (zaO n x41.2 ([45,62]:Str) _ h44 _ _ _ P0 (by simp only [go_sem,↓reduceIte,pz1 hpP0,hg3])) ?_;simp only [go_sem,Nat.reduceAdd];apply z;refine zbN x43.1 (fun c45=>?_) (fun c45=>?_)
  ·replace h:=zaK c45 h;refine zaM ?_;refine zai ?_;obtain ⟨x46,h47,h⟩:=bind_some h;refine zat fun _ z=>?_;simp only [go_sem,seval,c45];refine SC.by_ (zaO n x43.2 ([117,51,50]:Str) _ h47 _ _ _ P0 (by simp only [go_sem,↓reduceIte,hg3])) ?_;simp only [go_sem,seval];apply z;refine zbN x46.1 (fun c48=>?_) (fun c48=>?_)
   ·replace h:=zaK c48 h;refine zc1 fun _ z=>?_;simp only [go_sem,seval,pz1 hpP0,c48];apply z;simp only [zad,zau];refine zai ?_;obtain ⟨x49,h50,h⟩:=bind_some h;obtain ⟨f51,h⟩:=zaT h;have f52:x41.1.length+1<=1073741824:=by first | omega | (simp only [List.length_append,List.length_cons,List.length_nil] at f51 ⊢;omega)
    have f53:x41.1.length<=1073741823:=by first | omega | (simp only [List.length_append,List.length_cons,List.length_nil] at f51 ⊢;omega)
    refine zaU (tbl:=[0,1,0,4,12,31,63,127]) (ord:=[(2,0),(3,0),(0,0),(1,1),(4,0),(5,0),(6,0),(7,0)]) 37 rfl (by kernel_rfl) (by kernel_rfl) fun _ z=>?_;simp only [go_sem,seval];refine zaR (zcM n x46.2 (1:Int) _ h50 _ _ _ P0 (by simp only [go_sem,↓reduceIte,pz1 hpP0,hg3,hg5])) rfl ?_;simp only [go_sem,seval,pz1 hpP0,f52];apply z;simp only [zad];refine zao fun _ z=>?_;simp only [go_sem,seval,pz1 hpP0];apply z;refine zaw ?_;obtain rfl:=zah h;refine ⟨by simp,?_⟩;simp only [go_sem,seval,zan,za6,zaH,zak,zay hpP0,s_x2,s_x41]
   ·replace h:=zaL c48 h;refine zai ?_;obtain ⟨x54,h55,h⟩:=bind_some h;refine zat fun _ z=>?_;simp only [go_sem,seval,c48];refine SC.by_ (zaI n x46.2 ([117,54,52]:Str) _ h55 _ _ _ P0 (by simp only [go_sem,↓reduceIte,hg3])) ?_;simp only [go_sem,Nat.reduceAdd];apply z;refine zc1 fun _ z=>?_;simp only [go_sem,seval,pz1 hpP0];apply z;simp only [zad,zau];refine zai ?_;obtain ⟨x56,h57,h⟩:=bind_some h;obtain ⟨f58,h⟩:=zaT h;have f59:x41.1.length+1<=1073741824:=by first | omega | (simp only [List.length_append,List.length_cons,List.length_nil] at f58 ⊢;omega)
    have f60:x41.1.length<=1073741823:=by first | omega | (simp only [List.length_append,List.length_cons,List.length_nil] at f58 ⊢;omega)
    refine zaU (tbl:=[0,1,0,4,12,31,63,127]) (ord:=[(2,0),(3,0),(0,0),(1,1),(4,0),(5,0),(6,0),(7,0)]) 39 rfl (by kernel_rfl) (by kernel_rfl) fun _ z=>?_;simp only [go_sem,seval];refine zaR (zcM n x54 (1:Int) _ h57 _ _ _ P0 (by simp only [go_sem,↓reduceIte,pz1 hpP0,hg3,hg5])) rfl ?_;simp only [go_sem,seval,pz1 hpP0,f59];apply z;simp only [zad];refine zao fun _ z=>?_;simp only [go_sem,seval,pz1 hpP0];apply z;refine zaw ?_;obtain rfl:=zah h;refine ⟨by simp,?_⟩;simp only [go_sem,seval,zan,za6,zaH,zak,zay hpP0,s_x2,s_x41]
  ·replace h:=zaL c45 h;refine zaA ?_
   try simp only [zad]
   refine zai ?_;obtain ⟨x61,h62,h⟩:=bind_some h;obtain ⟨f63,h⟩:=zaT h;have f64:x41.1.length+1<=1073741824:=by first | omega | (simp only [List.length_append,List.length_cons,List.length_nil] at f63 ⊢;omega)
   have f65:x41.1.length<=1073741823:=by first | omega | (simp only [List.length_append,List.length_cons,List.length_nil] at f63 ⊢;omega)
   refine zaU (tbl:=[0,1,0,4,12,31,63,127]) (ord:=[(2,0),(3,0),(0,0),(1,1),(4,0),(5,0),(6,0),(7,0)]) 29 rfl (by kernel_rfl) (by kernel_rfl) fun _ z=>?_;simp only [go_sem,seval,c45];refine zaR (zcM n x43.2 (1:Int) _ h62 _ _ _ P0 (by simp only [go_sem,↓reduceIte,hg3,hg5])) rfl ?_;simp only [go_sem,seval,pz1 hpP0,f64];apply z;simp only [zad];refine zao fun _ z=>?_;simp only [go_sem,seval,pz1 hpP0];apply z;refine zaw ?_;obtain rfl:=zah h;refine ⟨by simp,?_⟩;simp only [go_sem,seval,zan,za6,zaH,zak,zay hpP0,s_x2,s_x41]
def zmz (f:Str->Option (zaa × Int × Int)):Prop:=∀a0 r,f a0=some r->∀(q:Pa) (m:M) (vs:List V),vs.map V.weak1=[.list .none (zeS a0)]/\m.gl 2=.eptr [(cA cS zbR)] 0 0/\m.gl 3=.eptr [(cA cS zaX)] 0 0/\m.gl 5=.eptr [(cA (cA cS) zbc)] 0 0->SC Tryz.prog 36 vs q m (fun v m'=>v=.tup [.agg ((zaa.C r.1)),.lit (.int .i64 r.2.1),.lit (.int .i64 r.2.2)]/\m'=m)
theorem zlQ (n:Nat):zmz (zhl n):=by
 rintro a0 r h q m vs ⟨hv,hg2,hg3,hg5⟩;refine SC.weak ?_;rw [hv];refine SC_w Tryz.func36 rfl (fun xs w=>Tryz.call36 xs w) Tryz.ntmps36 (by kernel_rfl) Tryz.results36 ?_;unfold zhl at h;refine zao fun _ z=>?_;simp only [go_sem,Nat.reduceAdd];apply z;refine zai ?_;obtain ⟨x2,h3,h⟩:=bind_some h;refine zat fun _ z=>?_;simp only [go_sem,seval];refine SC.by_ (zmD n a0 _ h3 _ _ _ (by simp only [go_sem,hg2])) ?_;simp only [go_sem,seval];apply z;refine zai ?_;refine zao fun _ z=>?_;simp only [go_sem,seval];apply z;refine zbN (x2.2.1 != (0:Int)) (fun c4=>?_) (fun c4=>?_)
 ·replace h:=zaK c4 h;refine zao fun _ z=>?_;simp only [go_sem,seval,c4];apply z;refine zaw ?_
  try simp only [zaE]
  obtain rfl:=zah h;refine ⟨by simp,?_⟩;simp only [go_sem,seval,zan,za6,zak]
 ·replace h:=zaL c4 h;refine zaA ?_
  try simp only [zad]
  refine zao fun _ z=>?_;simp only [go_sem,seval,c4];apply z;refine zai ?_;obtain ⟨x6,h8,h⟩:=bind_some h;refine zat fun _ z=>?_;simp only [go_sem,seval];refine SC.mono (zcc (zab.mk x2.1 (0:Int) (0:Int) (0:Int) (0:Int)) (1:Int) _ h8 _ _ _ (16::q) (by simp only [go_sem,↓reduceIte])) ?_;rintro _ _ ⟨o_x6,j_x6,s_x6,rfl,rfl⟩;replace s_x6:q <:+ o_x6:=List.IsSuffix.trans (by simp only [go_sem]) s_x6;simp only [go_sem,seval];apply z;refine zai ?_;refine zaM ?_;obtain ⟨y12,hy12,h⟩:=bind_some h;refine zbj [] [] rfl (fun c E' m'=>∃v10 v11,zes n c v10 v11=some y12/\E' 2=.ptr (0::q) 0/\E' 8=.ptr (16::q) 0/\E' 9=.ptr (20::q) 0/\m'.blk (0::q)=some ([.lit (.int .i64 (0:Int)),.lit (.int .i64 (0:Int)),.lit (.string (bs [])),.lit (.int .u32 (0:Int)),.list .self ([].map zaa.C)])/\m'.blk (16::q)=some ((zab.C v10))/\m'.blk (20::q)=some ([.lit (.int .i64 v11.za4),.lit (.int .i64 v11.At_),.lit (.string (bs v11.za7)),.lit (.int .u32 v11.Num_),.list .self (v11.zas.map zaa.C)])/\m'.gl=m.gl/\m.back q m'=m) n ⟨x6.2,x6.1,hy12,?_⟩ ?_
  ·simp only [go_sem,seval,zan,za6,zaH,zak,s_x6]
  rintro i9 c13 E14 m15 ⟨v10,v11,hy12,e16⟩ _
  rcases c13 with _ | c13
  ·exact absurd hy12 (by rw [zes];exact fun e=>nomatch e)
  rw [zes] at hy12;refine zai ?_;refine zai ?_;obtain ⟨y17,hy17,hy12⟩:=bind_some hy12;refine zbh 11 [] [] rfl (fun E' m'=>E' 2=.ptr (0::q) 0/\E' 8=.ptr (16::q) 0/\E' 9=.ptr (20::q) 0/\E' 36=.lit (.bool y17)/\m'.blk (0::q)=some ([.lit (.int .i64 (0:Int)),.lit (.int .i64 (0:Int)),.lit (.string (bs [])),.lit (.int .u32 (0:Int)),.list .self ([].map zaa.C)])/\m'.blk (16::q)=some ((zab.C v10))/\m'.blk (20::q)=some ([.lit (.int .i64 v11.za4),.lit (.int .i64 v11.At_),.lit (.string (bs v11.za7)),.lit (.int .u32 v11.Num_),.list .self (v11.zas.map zaa.C)])/\m'.gl=m.gl/\m.back q m'=m) ?_ ?_
  ·rcases zbf (v10.e_ == (0:Int)) with c18 | c18
   ·replace hy17:=zaK c18 hy17;obtain ⟨x19,h20,hy17⟩:=bind_some hy17;refine zat fun _ z=>?_;simp only [go_sem,seval,c18,e16];refine SC.by_ (zb1 v10 _ h20 _ _ _ (16::q) (by simp only [go_sem,e16])) ?_;simp only [go_sem,seval];apply z;obtain rfl:=zah hy17;refine ⟨by decide,?_⟩;simp only [go_sem,seval,e16]
   ·replace hy17:=zaL c18 hy17;refine zat fun _ z=>?_;simp only [go_sem,seval,c18,e16];apply z;obtain rfl:=zah hy17;refine ⟨by decide,?_⟩;simp only [go_sem,seval,e16]
  ·intro E21 m22 e23 _;simp only [zad];refine zcb y17 (by simp only [go_sem,e23]) (fun c24=>?_) (fun c24=>?_)
   ·replace hy12:=zaK c24 hy12;refine zaA ?_
    try simp only [zad]
    refine zaM ?_;obtain ⟨x25,h26,hy12⟩:=bind_some hy12;obtain ⟨f27,hy12⟩:=zaT hy12;have f28:v11.zas.length+1<=1073741824:=by first | omega | (simp only [List.length_append,List.length_cons,List.length_nil] at f27 ⊢;omega)
    have f29:v11.zas.length<=1073741823:=by first | omega | (simp only [List.length_append,List.length_cons,List.length_nil] at f27 ⊢;omega)
    refine zaU (tbl:=[0,1,0,4,12,31,63,127]) (ord:=[(2,0),(3,0),(0,0),(1,1),(4,0),(5,0),(6,0),(7,0)]) 19 rfl (by kernel_rfl) (by kernel_rfl) fun _ z=>?_;simp only [go_sem,seval,e23];refine zaR (zhC n v10 _ h26 _ _ _ (16::q) (by simp only [go_sem,e23,hg3,hg5])) rfl ?_;simp only [go_sem,seval,f28,e23];apply z;simp only [zad,zau];refine ⟨c13,Nat.lt_succ_self _,x25.2,({ v11 with zas:=(v11.zas++[x25.1]) }:zaa),hy12,?_⟩;simp only [go_sem,seval,zan,za6,zaH,e23]
   ·replace hy12:=zaL c24 hy12;refine zbK ?_
    try simp only [zaW,zaQ,↓reduceIte,zad]
    obtain rfl:=zah hy12;refine zai ?_;refine zao fun _ z=>?_;simp only [go_sem,seval,e23];apply z;refine zbN (v10.e_ != (0:Int)) (fun c30=>?_) (fun c30=>?_)
    ·replace h:=zaK c30 h;refine zai ?_;refine zaU (tbl:=[0,0,2,6,14,0,32,96,224,1,543,2047]) (ord:=[(0,0),(9,0),(1,0),(2,0),(3,0),(4,1),(5,0),(6,0),(7,0),(8,1),(10,0),(11,0)]) 40 rfl (by kernel_rfl) (by kernel_rfl) fun _ z=>?_;simp only [go_sem,seval,c30,e23];apply z;simp only [zad];refine zaw ?_
     try simp only [zaE]
     obtain rfl:=zah h;refine ⟨by simp,?_⟩;simp only [go_sem,seval,zan,za6,e23]
    ·replace h:=zaL c30 h;refine zaA ?_
     try simp only [zad]
     refine zao fun _ z=>?_;simp only [go_sem,seval,c30,e23];apply z;refine zaw ?_;obtain rfl:=zah h;refine ⟨by simp,?_⟩;simp only [go_sem,seval,zan,e23]
end Go.Proofs.YtldnmmnnohnpkaaGreatDoor.Abs
