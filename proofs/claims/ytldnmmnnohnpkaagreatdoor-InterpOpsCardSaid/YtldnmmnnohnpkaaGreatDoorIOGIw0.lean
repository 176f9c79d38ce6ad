/-
 Walks: each function does what its model says. Written by a program of mine (gen.py) for this claim.
-/
import Derived.Test.YtldnmmnnohnpkaaGreatDoorIOFacts
import Derived.Test.YtldnmmnnohnpkaaGreatDoorIOVs
import Derived.Test.YtldnmmnnohnpkaaGreatDoorIOGMm
namespace Go.Proofs.YtldnmmnnohnpkaaGreatDoor.Abs
set_option linter.unusedVariables false
open Go.RowKit
set_option maxRecDepth 10000
def zb9 (a:zal) (h:List (List Int)) (b:zal) (k:List (List Int)):Prop:=b.f_=a.f_/\b.zbk=a.zbk/\b.za1.length=a.za1.length/\k.map List.length=h.map List.length
@[go_sem] theorem zb9.refl {a:zal} {h:List (List Int)}:zb9 a h a h:=⟨rfl,rfl,rfl,rfl⟩
theorem zb9.trans {a b c:zal} {h k l:List (List Int)} (x:zb9 a h b k) (y:zb9 b k c l):zb9 a h c l:=⟨y.1.trans x.1,y.2.1.trans x.2.1,y.2.2.1.trans x.2.2.1,y.2.2.2.trans x.2.2.2⟩
theorem zb9.setW {a b:zal} {h k:List (List Int)} (x:zb9 a h b k) {n:Nat} {v:Int}:zb9 a h { b with za1:=b.za1.set n v } k:=⟨x.1,x.2.1,by rw [List.length_set];exact x.2.2.1,x.2.2.2⟩
theorem zb9.setA {a b:zal} {h k:List (List Int)} (x:zb9 a h b k) {n:Nat} {l l':List Int} (hl:k[n]? = some l) (he:l'.length=l.length):zb9 a h b (k.set n l'):=⟨x.1,x.2.1,x.2.2.1,(zm4 hl he).trans x.2.2.2⟩
theorem zb9.res {a b:zal} {h k:List (List Int)} (x:zb9 a h b k) {v:Int}:zb9 a h { b with zgE:=v } k:=x
theorem HOk.upk {h:Hp} {W A:Pa} {AS:List Pa} {LS:List Nat} {a b:zal} {hs hs':List (List Int)} (k:HOk h W A AS LS a.za1 a.zbk hs) (x:zb9 a hs b hs'):HOk (hpU h W b.za1 AS hs') W A AS LS b.za1 b.zbk hs':=by rw [x.2.1];exact k.up x.2.2.2
def znd (f:Str->Option Int):Prop:=∀a0 r,f a0=some r->∀(q:Pa) (m:M) (vs:List V),vs.map V.weak1=[.lit (.string (bs a0))]/\m.gl 0=.eptr [(cA zaK.C zbq)] 0 0->SC Tryz.prog 33 vs q m (fun v m'=>v=.lit (.int .i64 r)/\m'=m)
theorem zfq (n:Nat):znd (zet n):=by
 rintro a0 r h q m vs ⟨hv,hg0⟩;refine SC.weak ?_;rw [hv];refine SC_w Tryz.func33 rfl (fun xs w=>Tryz.call33 xs w) Tryz.ntmps33 (by kernel_rfl) Tryz.results33 ?_;unfold zet at h;refine zan fun K hK=>?_;simp only [go_sem];apply hK;refine zah ?_;refine zan fun K hK=>?_;simp only [go_sem,Nat.reduceAdd,hg0];apply hK;refine zaF ?_;obtain ⟨y3,hy3,h⟩:=bind_some h;refine zbu [] [] rfl (fun c E' m'=>∃v2,zfr a0 c v2=some y3/\E' 0=.lit (.string (bs a0))/\E' 5=.agg ((cA zaK.C zbq))/\E' 6=.lit (.int .i64 v2)/\m'.gl=m.gl/\m.back q m'=m) n ⟨(0:Int),hy3,?_⟩ ?_
 ·simp only [go_sem,seval,zak]
 rintro i1 c4 E5 m6 ⟨v2,hy3,e7⟩ _
 rcases c4 with _ | c4
 ·exact absurd hy3 (by rw [zfr];exact fun e=>nomatch e)
 rw [zfr] at hy3;refine zan fun K hK=>?_;simp only [go_sem,e7];apply hK;refine zah ?_;refine zbB (decide (v2<(15:Int))) (by simp only [go_sem,↓reduceIte]) (fun c8=>?_) (fun c8=>?_)
 ·replace hy3:=zaB c8 hy3;refine zaw ?_
  try simp only [zaa]
  refine zah ?_;refine zaF ?_;refine zah ?_;obtain ⟨x9,h14,hy3⟩:=bind_some hy3;obtain ⟨f11,f12,f13⟩:=zav h14;have f15:v2<(15:Int):=f12;obtain ⟨w16,d17⟩:=zhT (f:=zaK.C) (s:=2) (fun _ _=>rfl) f13;simp only [go_sem] at d17;refine zap fun K hK=>?_;simp only [go_sem,seval,f11,f15,d17,e7];apply hK;refine zan fun K hK=>?_;simp only [go_sem,seval,e7];apply hK;refine zbh (decide (x9.zmX=a0)) (fun c18=>?_) (fun c18=>?_)
  ·replace hy3:=zaB c18 hy3;refine zan fun K hK=>?_;simp only [go_sem,seval,c18];apply hK;refine zau ?_
   try simp only [zas,zaA]
   obtain rfl:=zaf hy3;simp only [Sum.elim_inr] at h;obtain rfl:=zaf h;refine ⟨by simp,?_⟩;simp only [go_sem,↓reduceIte,zam,e7]
  ·replace hy3:=zaC c18 hy3;refine zaw ?_
   try simp only [zaa,zaq]
   refine zap fun K hK=>?_;simp only [go_sem,seval,c18,e7];apply hK;refine ⟨c4,Nat.lt_succ_self _,(IntKind.i64.wrap (v2+(1:Int))),hy3,?_⟩;simp only [go_sem,seval,zam,e7]
 ·replace hy3:=zaC c8 hy3;refine zbA ?_
  try simp only [zaR,zaI,↓reduceIte,zaa]
  obtain rfl:=zaf hy3;simp only [Sum.elim_inl] at h;refine zan fun K hK=>?_;simp only [go_sem,Nat.reduceAdd,c8];apply hK;refine zau ?_;obtain rfl:=zaf h;refine ⟨by simp,?_⟩;simp only [go_sem,↓reduceIte,e7]
def zl6 (f:zaH->zbm->Option Bool):Prop:=∀a0 a1 r,f a0 a1=some r->∀(q:Pa) (m:M) (vs:List V),vs.map V.weak1=[.agg ((zaH.C a0)),.agg ((zbm.C a1))]->SC Tryz.prog 34 vs q m (fun v m'=>v=.lit (.bool r)/\m'=m)
theorem zlv (n:Nat):zl6 (zkl n):=by
 intro a0 a1 r h q m vs hv;refine SC.weak ?_;rw [hv];refine SC_w Tryz.func34 rfl (fun xs w=>Tryz.call34 xs w) Tryz.ntmps34 (by kernel_rfl) Tryz.results34 ?_;unfold zkl at h;refine zan fun K hK=>?_;simp only [go_sem,seval];apply hK;refine zan fun K hK=>?_;simp only [go_sem,Nat.reduceAdd];apply hK;refine zah ?_;refine zah ?_;obtain ⟨⟨f3,f4⟩,h⟩:=zaO h;refine zap fun K hK=>?_;simp only [go_sem,seval,f3,f4];apply hK;refine zaF ?_;obtain ⟨y9,hy9,h⟩:=bind_some h;refine zbu [] [] rfl (fun c E' m'=>∃v6 v7 v8,zfG a0 a1 c v6 v7 v8=some y9/\E' 3=.ptr (1::q) 0/\E' 5=.lit (.int .i64 v6)/\E' 6=.lit (.int .i64 v7)/\E' 13=.list .none ((a0.zbe.take a0.zbf.toNat).map zaD.C)/\E' 14=.lit (.int .i64 ((a0.zbe.take a0.zbf.toNat).length:Int))/\E' 15=.lit (.int .i64 v8)/\m'.blk (1::q)=some ((zbm.C a1))/\m'.gl=m.gl/\m.back q m'=m) n ⟨(0:Int),(0:Int),(0:Int),hy9,?_⟩ ?_
 ·simp only [go_sem,seval,zam,zak]
 rintro i5 c10 E11 m12 ⟨v6,v7,v8,hy9,e13⟩ _
 rcases c10 with _ | c10
 ·exact absurd hy9 (by rw [zfG];exact fun e=>nomatch e)
 rw [zfG] at hy9;refine zan fun K hK=>?_;simp only [go_sem,e13];apply hK;refine zah ?_;refine zbB (decide (v8<((a0.zbe.take a0.zbf.toNat).length:Int))) (by simp only [go_sem,↓reduceIte]) (fun c14=>?_) (fun c14=>?_)
 ·replace hy9:=zaB c14 hy9;refine zaw ?_
  try simp only [zaa]
  refine zah ?_;obtain ⟨y15,hy15,hy9⟩:=bind_some hy9;refine zbd 29 [] [] rfl (fun E' m'=>∃(y15a:(Int × Int)),y15=.inl y15a/\E' 3=.ptr (1::q) 0/\E' 5=.lit (.int .i64 y15a.1)/\E' 6=.lit (.int .i64 y15a.2)/\E' 13=.list .none ((a0.zbe.take a0.zbf.toNat).map zaD.C)/\E' 14=.lit (.int .i64 ((a0.zbe.take a0.zbf.toNat).length:Int))/\E' 15=.lit (.int .i64 v8)/\m'.blk (1::q)=some ((zbm.C a1))/\m'.gl=m.gl/\m.back q m'=m) ?_ ?_
  ·refine zaF ?_;refine zah ?_;obtain ⟨x16,h21,hy15⟩:=bind_some hy15;obtain ⟨f18,f19,f20⟩:=zav h21;refine zap fun K hK=>?_;simp only [go_sem,seval,f18,f19,f20,e13];apply hK;refine zah ?_;refine zan fun K hK=>?_;simp only [go_sem,seval];apply hK;refine zbh (x16.zbE == (4:Int)) (fun c22=>?_) (fun c22=>?_)
   ·replace hy15:=zaB c22 hy15;refine zah ?_;refine zah ?_;obtain ⟨y23,hy23,hy15⟩:=bind_some hy15;refine zbd 24 [] [] rfl (fun E' m'=>E' 3=.ptr (1::q) 0/\E' 5=.lit (.int .i64 v6)/\E' 6=.lit (.int .i64 v7)/\E' 13=.list .none ((a0.zbe.take a0.zbf.toNat).map zaD.C)/\E' 14=.lit (.int .i64 ((a0.zbe.take a0.zbf.toNat).length:Int))/\E' 15=.lit (.int .i64 v8)/\E' 37=.lit (.bool y23)/\m'.blk (1::q)=some ((zbm.C a1))/\m'.gl=m.gl/\m.back q m'=m) ?_ ?_
    ·rcases zbn (decide ((a1.zhU.length:Int)<=v7)) with c24 | c24
     ·replace hy23:=zaB c24 hy23;refine zaN (tbl:=[0,0,2,6,15,31,63,127,63,511,1023,2047,63,4159,16383,32767]) (ord:=[(0,0),(1,0),(2,0),(3,0),(4,0),(5,0),(6,0),(7,0),(8,0),(9,0),(10,0),(11,0),(12,0),(13,0),(14,0),(15,0)]) 24 rfl (by kernel_rfl) (by kernel_rfl) fun K hK=>?_;simp only [go_sem,seval,c22,c24,e13];apply hK;simp only [zaa];obtain rfl:=zaf hy23;refine ⟨by decide,?_⟩;simp only [go_sem,seval,zam,e13]
     ·replace hy23:=zaC c24 hy23;obtain ⟨x25,h29,hy23⟩:=bind_some hy23;obtain ⟨f26,f27,f28⟩:=zav h29;refine zaN (tbl:=[0,0,2,6,15,31,63,127,63,511,1023,2047,63,4159,16383,32767]) (ord:=[(0,0),(1,0),(2,0),(3,0),(4,0),(5,0),(6,0),(7,0),(8,0),(9,0),(10,0),(11,0),(12,0),(13,0),(14,0),(15,0)]) 24 rfl (by kernel_rfl) (by kernel_rfl) fun K hK=>?_;simp only [go_sem,seval,c22,c24,f26,f27,f28,e13];apply hK;simp only [zaa];obtain rfl:=zaf hy23;refine ⟨by decide,?_⟩;simp only [go_sem,seval,zam,e13]
    ·intro E30 m31 e32 _;simp only [zaa];refine zbB y23 (by simp only [go_sem,e32]) (fun c33=>?_) (fun c33=>?_)
     ·replace hy15:=zaB c33 hy15;refine zan fun K hK=>?_;simp only [go_sem,Nat.reduceAdd];apply hK;refine zau ?_
      try simp only [zas,zaA]
      obtain rfl:=zaf hy15;simp only [Sum.elim_inr] at hy9;obtain rfl:=zaf hy9;simp only [Sum.elim_inr] at h;obtain rfl:=zaf h;refine ⟨by simp,?_⟩;simp only [go_sem,↓reduceIte,e32]
     ·replace hy15:=zaC c33 hy15;refine zaw ?_
      try simp only [zaa]
      refine zan fun K hK=>?_;simp only [go_sem,seval,e32];apply hK;refine zbA ?_
      try simp only [zaR,zaI,↓reduceIte,zaa]
      obtain rfl:=zaf hy15;refine ⟨by decide,(v6,(IntKind.i64.wrap (v7+(1:Int)))),rfl,?_⟩;simp only [go_sem,seval,e32]
   ·replace hy15:=zaC c22 hy15;refine zaw ?_
    try simp only [zaa]
    refine zah ?_;refine zah ?_;obtain ⟨y34,hy34,hy15⟩:=bind_some hy15;refine zbd 26 [] [] rfl (fun E' m'=>E' 3=.ptr (1::q) 0/\E' 5=.lit (.int .i64 v6)/\E' 6=.lit (.int .i64 v7)/\E' 13=.list .none ((a0.zbe.take a0.zbf.toNat).map zaD.C)/\E' 14=.lit (.int .i64 ((a0.zbe.take a0.zbf.toNat).length:Int))/\E' 15=.lit (.int .i64 v8)/\E' 57=.lit (.bool y34)/\m'.blk (1::q)=some ((zbm.C a1))/\m'.gl=m.gl/\m.back q m'=m) ?_ ?_
    ·rcases zbn (decide ((a1.zkX.length:Int)<=v6)) with c35 | c35
     ·replace hy34:=zaB c35 hy34;refine zap fun K hK=>?_;simp only [go_sem,seval,c22,c35,e13];apply hK;obtain rfl:=zaf hy34;refine ⟨by decide,?_⟩;simp only [go_sem,seval,zam,e13]
     ·replace hy34:=zaC c35 hy34
      rcases zbn (x16.zbE != (3:Int)) with c36 | c36
      ·replace hy34:=zaB c36 hy34;obtain ⟨x37,h41,hy34⟩:=bind_some hy34;obtain ⟨f38,f39,f40⟩:=zav h41;refine zap fun K hK=>?_;simp only [go_sem,seval,c22,c35,c36,f38,f39,f40,e13];apply hK;obtain rfl:=zaf hy34;refine ⟨by decide,?_⟩;simp only [go_sem,seval,zam,e13]
      ·replace hy34:=zaC c36 hy34;refine zap fun K hK=>?_;simp only [go_sem,seval,c22,c35,c36,e13];apply hK;obtain rfl:=zaf hy34;refine ⟨by decide,?_⟩;simp only [go_sem,seval,zam,e13]
    ·intro E42 m43 e44 _;simp only [zaa];refine zbB y34 (by simp only [go_sem,e44]) (fun c45=>?_) (fun c45=>?_)
     ·replace hy15:=zaB c45 hy15;refine zan fun K hK=>?_;simp only [go_sem,Nat.reduceAdd];apply hK;refine zau ?_
      try simp only [zas,zaA]
      obtain rfl:=zaf hy15;simp only [Sum.elim_inr] at hy9;obtain rfl:=zaf hy9;simp only [Sum.elim_inr] at h;obtain rfl:=zaf h;refine ⟨by simp,?_⟩;simp only [go_sem,↓reduceIte,e44]
     ·replace hy15:=zaC c45 hy15;refine zaw ?_
      try simp only [zaa]
      refine zb8 fun K hK=>?_;simp only [go_sem,seval,e44];apply hK;simp only [zaa,zaq];obtain rfl:=zaf hy15;refine ⟨by decide,((IntKind.i64.wrap (v6+(1:Int))),v7),rfl,?_⟩;simp only [go_sem,seval,e44]
  ·rintro E46 m47 ⟨y15a,rfl,e48⟩ _;simp only [Sum.elim_inl] at hy9;simp only [zaa];refine zap fun K hK=>?_;simp only [go_sem,seval,e48];apply hK;refine ⟨c10,Nat.lt_succ_self _,y15a.1,y15a.2,(IntKind.i64.wrap (v8+(1:Int))),hy9,?_⟩;simp only [go_sem,seval,e48]
 ·replace hy9:=zaC c14 hy9;refine zbA ?_
  try simp only [zaR,zaI,↓reduceIte,zaa]
  obtain rfl:=zaf hy9;simp only [Sum.elim_inl] at h;refine zah ?_;obtain ⟨y49,hy49,h⟩:=bind_some h;refine zbd 26 [] [] rfl (fun E' m'=>E' 4=.lit (.bool y49)/\m'.gl=m.gl/\m.back q m'=m) ?_ ?_
  ·rcases zbn (v6 == (a1.zkX.length:Int)) with c50 | c50
   ·replace hy49:=zaB c50 hy49;refine zap fun K hK=>?_;simp only [go_sem,seval,c14,c50,e13];apply hK;obtain rfl:=zaf hy49;refine ⟨by decide,?_⟩;simp only [go_sem,↓reduceIte,e13]
   ·replace hy49:=zaC c50 hy49;refine zap fun K hK=>?_;simp only [go_sem,seval,c14,c50,e13];apply hK;obtain rfl:=zaf hy49;refine ⟨by decide,?_⟩;simp only [go_sem,↓reduceIte,e13]
  ·intro E51 m52 e53 _;simp only [zaa];refine zau ?_;obtain rfl:=zaf h;refine ⟨by simp,?_⟩;simp only [go_sem,e53]
def zix (f:zai->Option Bool):Prop:=∀a0 r,f a0=some r->∀(q:Pa) (m:M) (vs:List V) (P0:Pa) (zP0:Nat),vs.map V.weak1=[.ptr P0 0]/\m.blk P0=some ((zat.C a0.p_)++[.lit (.int .i64 a0.zdw),.lit (.int .i64 a0.zcG),.lit (.int .i64 a0.e_),.list .self (a0.za3.map zax.C)])/\m.ver P0 4=zP0+a0.za3.length->SC Tryz.prog 87 vs q m (fun v m'=>v=.lit (.bool r)/\m'=m)
theorem za0:zix (za2):=by
 rintro a0 r h q m vs P0 zP0 ⟨hv,hmP0,hvrP0⟩;refine SC.weak ?_;rw [hv];refine SC.apart hmP0 fun hpP0=>?_
 try simp only [go_sem] at hmP0
 refine SC_w Tryz.func87 rfl (fun xs w=>Tryz.call87 xs w) Tryz.ntmps87 (by kernel_rfl) Tryz.results87 ?_;unfold za2 at h;refine zan fun K hK=>?_;simp only [go_sem];apply hK;refine zah ?_;obtain ⟨y1,hy1,h⟩:=bind_some h;refine zbd 14 [] [] rfl (fun E' m'=>E' 2=.lit (.bool y1)/\m'.blk P0=some ((zat.C a0.p_)++[.lit (.int .i64 a0.zdw),.lit (.int .i64 a0.zcG),.lit (.int .i64 a0.e_),.list .self (a0.za3.map zax.C)])/\m'.ver P0 4=zP0+a0.za3.length/\m'.gl=m.gl/\m.back q m'=m) ?_ ?_
 ·rcases zbn (a0.zcG != (0:Int)) with c2 | c2
  ·replace hy1:=zaB c2 hy1;refine zap fun K hK=>?_;simp only [go_sem,seval,c2,hmP0];apply hK;obtain rfl:=zaf hy1;refine ⟨by decide,?_⟩;simp only [go_sem,↓reduceIte,zak,hmP0,hvrP0]
  ·replace hy1:=zaC c2 hy1;refine zap fun K hK=>?_;simp only [go_sem,seval,c2,hmP0];apply hK;obtain rfl:=zaf hy1;refine ⟨by decide,?_⟩;simp only [go_sem,↓reduceIte,zak,hmP0,hvrP0]
 ·intro E3 m4 e5 _;simp only [zaa];refine zau ?_;obtain rfl:=zaf h;refine ⟨by simp,?_⟩;simp only [go_sem,e5]
def zi3 (f:zai->Option zai):Prop:=∀a0 r,f a0=some r->∀(q:Pa) (m:M) (vs:List V) (P0:Pa) (zP0:Nat),vs.map V.weak1=[.ptr P0 0]/\m.blk P0=some ((zat.C a0.p_)++[.lit (.int .i64 a0.zdw),.lit (.int .i64 a0.zcG),.lit (.int .i64 a0.e_),.list .self (a0.za3.map zax.C)])/\m.ver P0 4=zP0+a0.za3.length->SC Tryz.prog 88 vs q m (fun v m'=>v=.tup []/\m'=(m.setv P0 4 ((zat.C r.p_)++[.lit (.int .i64 r.zdw),.lit (.int .i64 r.zcG),.lit (.int .i64 r.e_),.list .self (r.za3.map zax.C)]) (zP0+r.za3.length)))
theorem zfX:zi3 (zed):=by
 rintro a0 r h q m vs P0 zP0 ⟨hv,hmP0,hvrP0⟩;refine SC.weak ?_;rw [hv];refine SC.apart hmP0 fun hpP0=>?_;have hmsP0:=zaY hmP0
 try simp only [go_sem] at hmP0 hmsP0
 refine SC_w Tryz.func88 rfl (fun xs w=>Tryz.call88 xs w) Tryz.ntmps88 (by kernel_rfl) Tryz.results88 ?_;unfold zed at h;refine zah ?_;refine zan fun K hK=>?_;simp only [go_sem,seval,hmP0];apply hK;refine zbB (decide (a0.zdw<=(0:Int))) (by simp only [go_sem,↓reduceIte]) (fun c1=>?_) (fun c1=>?_)
 ·replace h:=zaB c1 h;refine zan fun K hK=>?_;simp only [go_sem,seval,c1,hmP0];apply hK;refine zau ?_
  try simp only [zas]
  obtain rfl:=zaf h;refine ⟨by simp,?_⟩;simp only [go_sem,zak,zaz hpP0,zdI hvrP0]
 ·replace h:=zaC c1 h;refine zaw ?_
  try simp only [zaa]
  refine zb8 fun K hK=>?_;simp only [go_sem,seval,c1,hmP0];apply hK;simp only [];obtain rfl:=zaf h;refine ⟨by simp,?_⟩;simp only [go_sem,zak,zaz hpP0,zdI hvrP0]
def zjs (f:zai->Int->Int->Int->Option zai):Prop:=∀a0 a1 a2 a3 r,f a0 a1 a2 a3=some r->∀(q:Pa) (m:M) (vs:List V) (P0:Pa) (zP0:Nat),vs.map V.weak1=[.ptr P0 0,.lit (.int .i64 a1),.lit (.int .u32 a2),.lit (.int .u32 a3)]/\m.blk P0=some ((zat.C a0.p_)++[.lit (.int .i64 a0.zdw),.lit (.int .i64 a0.zcG),.lit (.int .i64 a0.e_),.list .self (a0.za3.map zax.C)])/\m.ver P0 4=zP0+a0.za3.length->SC Tryz.prog 179 vs q m (fun v m'=>v=.tup []/\m'=(m.setv P0 4 ((zat.C r.p_)++[.lit (.int .i64 r.zdw),.lit (.int .i64 r.zcG),.lit (.int .i64 r.e_),.list .self (r.za3.map zax.C)]) (zP0+r.za3.length)))
theorem zcw:zjs (zcj):=by
 rintro a0 a1 a2 a3 r h q m vs P0 zP0 ⟨hv,hmP0,hvrP0⟩;refine SC.weak ?_;rw [hv];refine SC.apart hmP0 fun hpP0=>?_;have hmsP0:=zaY hmP0
 try simp only [go_sem] at hmP0 hmsP0
 refine SC_w Tryz.func179 rfl (fun xs w=>Tryz.call179 xs w) Tryz.ntmps179 (by kernel_rfl) Tryz.results179 ?_;unfold zcj at h;obtain ⟨f1,h⟩:=zaO h;have f2:a0.za3.length+1<=1073741824:=by first | omega | (simp only [List.length_append,List.length_cons,List.length_nil] at f1 ⊢;omega)
 have f3:a0.za3.length<=1073741823:=by first | omega | (simp only [List.length_append,List.length_cons,List.length_nil] at f1 ⊢;omega)
 refine zb8 fun K hK=>?_;simp only [go_sem,seval,f2,hmP0,hvrP0];apply hK;simp only [];obtain rfl:=zaf h;refine ⟨by simp,?_⟩;simp only [go_sem,zaU,zak,zaz hpP0,zn7 hpP0,set_bump hvrP0,List.length_append,List.length_cons,List.length_nil,Nat.zero_add,←Nat.add_assoc]
def zlu (f:Str->(List Int)->Option (Int × Bool)):Prop:=∀a0 a1 r,f a0 a1=some r->∀(q:Pa) (m:M) (vs:List V),vs.map V.weak1=[.lit (.string (bs a0)),.list .none (a1.map (cI .u64))]->SC Tryz.prog 177 vs q m (fun v m'=>v=.tup [.lit (.int .u64 r.1),.lit (.bool r.2)]/\m'=m)
theorem zlj:zlu (zjx):=by
 intro a0 a1 r h q m vs hv;refine SC.weak ?_;rw [hv];refine SC_w Tryz.func177 rfl (fun xs w=>Tryz.call177 xs w) Tryz.ntmps177 (by kernel_rfl) Tryz.results177 ?_;unfold zjx at h;refine zan fun K hK=>?_;simp only [go_sem,Nat.reduceAdd];apply hK;refine zah ?_;refine zan fun K hK=>?_;simp only [go_sem,seval];apply hK;refine zaF ?_;refine zan fun K hK=>?_;simp only [go_sem,seval];apply hK;refine zbB (decide (a0=([115,101,108,101,99,116]:Str))) (by simp only [go_sem,↓reduceIte]) (fun c1=>?_) (fun c1=>?_)
 ·replace h:=zaB c1 h;refine zah ?_;refine zah ?_;obtain ⟨x2,h6,h⟩:=bind_some h;obtain ⟨f3,f4,f5⟩:=zav h6;have f7:a1[0]? = some x2:=f5;refine zap fun K hK=>?_;simp only [go_sem,seval,c1,f3,f4,f7];apply hK;refine zbB ((andK .u64 x2 (1:Int)) == (1:Int)) (by simp only [go_sem,↓reduceIte]) (fun c8=>?_) (fun c8=>?_)
  ·replace h:=zaB c8 h;refine zah ?_;obtain ⟨x9,h13,h⟩:=bind_some h;obtain ⟨f10,f11,f12⟩:=zav h13;have f14:a1[1]? = some x9:=f12;refine zap fun K hK=>?_;simp only [go_sem,seval,Int.reduceToNat,c8,f10,f11,f14];apply hK;refine zau ?_
   try simp only [zas,zaA]
   obtain rfl:=zaf h;refine ⟨by simp,?_⟩;simp only [go_sem,seval,zak]
  ·replace h:=zaC c8 h;refine zaw ?_
   try simp only [zaa]
   refine zah ?_;obtain ⟨x15,h19,h⟩:=bind_some h;obtain ⟨f16,f17,f18⟩:=zav h19;have f20:a1[2]? = some x15:=f18;refine zap fun K hK=>?_;simp only [go_sem,seval,Int.reduceToNat,c8,f16,f17,f20];apply hK;refine zau ?_
   try simp only [zas,zaA]
   obtain rfl:=zaf h;refine ⟨by simp,?_⟩;simp only [go_sem,seval,zak]
 ·replace h:=zaC c1 h;refine zan fun K hK=>?_;simp only [go_sem,seval,c1];apply hK;refine zbB (decide (a0=([108,111,110,103]:Str))) (by simp only [go_sem,↓reduceIte]) (fun c21=>?_) (fun c21=>?_)
  ·replace h:=zaB c21 h;refine zah ?_;obtain ⟨x22,h26,h⟩:=bind_some h;obtain ⟨f23,f24,f25⟩:=zav h26;have f27:a1[0]? = some x22:=f25;refine zap fun K hK=>?_;simp only [go_sem,seval,c21,f23,f24,f27];apply hK;refine zau ?_
   try simp only [zas,zaA]
   obtain rfl:=zaf h;refine ⟨by simp,?_⟩;simp only [go_sem,seval,zak]
  ·replace h:=zaC c21 h;refine zan fun K hK=>?_;simp only [go_sem,seval,c21];apply hK;refine zbB (decide (a0=([108,111]:Str))) (by simp only [go_sem,↓reduceIte]) (fun c28=>?_) (fun c28=>?_)
   ·replace h:=zaB c28 h;refine zah ?_;obtain ⟨x29,h33,h⟩:=bind_some h;obtain ⟨f30,f31,f32⟩:=zav h33;have f34:a1[0]? = some x29:=f32;refine zap fun K hK=>?_;simp only [go_sem,seval,c28,f30,f31,f34];apply hK;refine zau ?_
    try simp only [zas,zaA]
    obtain rfl:=zaf h;refine ⟨by simp,?_⟩;simp only [go_sem,seval,zak]
   ·replace h:=zaC c28 h;refine zan fun K hK=>?_;simp only [go_sem,seval,c28];apply hK;refine zbB (decide (a0=([104,105]:Str))) (by simp only [go_sem,↓reduceIte]) (fun c35=>?_) (fun c35=>?_)
    ·replace h:=zaB c35 h;refine zah ?_;obtain ⟨x36,h40,h⟩:=bind_some h;obtain ⟨f37,f38,f39⟩:=zav h40;have f41:a1[0]? = some x36:=f39;refine zap fun K hK=>?_;simp only [go_sem,seval,c35,f37,f38,f41,(by decide:(0:Int)<=(32:Int))];apply hK;refine zau ?_
     try simp only [zas,zaA]
     obtain rfl:=zaf h;refine ⟨by simp,?_⟩;simp only [go_sem,seval,zak]
    ·replace h:=zaC c35 h;refine zan fun K hK=>?_;simp only [go_sem,seval,c35];apply hK;refine zbB (decide (a0=([119,105,100,101]:Str))) (by simp only [go_sem,↓reduceIte]) (fun c42=>?_) (fun c42=>?_)
     ·replace h:=zaB c42 h;refine zah ?_;obtain ⟨x43,h48,h⟩:=bind_some h;obtain ⟨f45,f46,f47⟩:=zav h48;have f49:a1[0]? = some x43:=f47;obtain ⟨x44,h53,h⟩:=bind_some h;obtain ⟨f50,f51,f52⟩:=zav h53;have f54:a1[1]? = some x44:=f52;refine zaN (tbl:=[0,1,3,0,8,24,63,127,255]) (ord:=[(0,0),(1,0),(2,0),(3,0),(4,0),(5,0),(6,0),(7,0),(8,0)]) 22 rfl (by kernel_rfl) (by kernel_rfl) fun K hK=>?_;simp only [go_sem,seval,Int.reduceToNat,c42,f45,f46,f49,f50,f51,f54];apply hK;simp only [zaa];refine zau ?_
      try simp only [zas,zaA]
      obtain rfl:=zaf h;refine ⟨by simp,?_⟩;simp only [go_sem,seval,zak]
     ·replace h:=zaC c42 h;refine zaw ?_
      try simp only [zaa,zaq]
      refine zan fun K hK=>?_;simp only [go_sem,Nat.reduceAdd,c42];apply hK;refine zau ?_;obtain rfl:=zaf h;refine ⟨by simp,?_⟩;simp only [go_sem,seval,zak]
def zii (f:Int->Int->Option Int):Prop:=∀a0 a1 r,f a0 a1=some r->∀(q:Pa) (m:M) (vs:List V),vs.map V.weak1=[.lit (.int .u64 a0),.lit (.int .i64 a1)]->SC Tryz.prog 225 vs q m (fun v m'=>v=.lit (.int .u64 r)/\m'=m)
theorem zhN:zii (ze4):=by
 intro a0 a1 r h q m vs hv;refine SC.weak ?_;rw [hv];refine SC_w Tryz.func225 rfl (fun xs w=>Tryz.call225 xs w) Tryz.ntmps225 (by kernel_rfl) Tryz.results225 ?_;unfold ze4 at h;refine zan fun K hK=>?_;simp only [go_sem];apply hK;refine zan fun K hK=>?_;simp only [go_sem,seval];apply hK;refine zah ?_;obtain ⟨f1,h⟩:=zaO h;obtain ⟨f2,h⟩:=zaO h;refine zap fun K hK=>?_;simp only [go_sem,seval,f1,f2];apply hK;refine zau ?_;obtain rfl:=zaf h;refine ⟨by simp,?_⟩;simp only [go_sem,↓reduceIte,zak]
def zlt (f:Bool->Option Int):Prop:=∀a0 r,f a0=some r->∀(q:Pa) (m:M) (vs:List V),vs.map V.weak1=[.lit (.bool a0)]->SC Tryz.prog 226 vs q m (fun v m'=>v=.lit (.int .u64 r)/\m'=m)
theorem zjw:zlt (zht):=by
 intro a0 r h q m vs hv;refine SC.weak ?_;rw [hv];refine SC_w Tryz.func226 rfl (fun xs w=>Tryz.call226 xs w) Tryz.ntmps226 (by kernel_rfl) Tryz.results226 ?_;unfold zht at h;refine zan fun K hK=>?_;simp only [go_sem];apply hK;refine zah ?_;refine zan fun K hK=>?_;simp only [go_sem,seval];apply hK;refine zbh a0 (fun c1=>?_) (fun c1=>?_)
 ·replace h:=zaB c1 h;refine zan fun K hK=>?_;simp only [go_sem,Nat.reduceAdd,c1];apply hK;refine zau ?_
  try simp only [zas]
  obtain rfl:=zaf h;refine ⟨by simp,?_⟩;simp only [go_sem,↓reduceIte,zak]
 ·replace h:=zaC c1 h;refine zaw ?_
  try simp only [zaa]
  refine zan fun K hK=>?_;simp only [go_sem,Nat.reduceAdd,c1];apply hK;refine zau ?_;obtain rfl:=zaf h;refine ⟨by simp,?_⟩;simp only [go_sem,↓reduceIte,zak]
def zl5 (f:Str->Int->Int->Option Int):Prop:=∀a0 a1 a2 r,f a0 a1 a2=some r->∀(q:Pa) (m:M) (vs:List V),vs.map V.weak1=[.lit (.string (bs a0)),.lit (.int .u64 a1),.lit (.int .u64 a2)]->SC Tryz.prog 207 vs q m (fun v m'=>v=.lit (.int .u64 r)/\m'=m)
theorem zj3:zl5 (ziL):=by
 intro a0 a1 a2 r h q m vs hv;refine SC.weak ?_;rw [hv];refine SC_w Tryz.func207 rfl (fun xs w=>Tryz.call207 xs w) Tryz.ntmps207 (by kernel_rfl) Tryz.results207 ?_;unfold ziL at h;refine zan fun K hK=>?_;simp only [go_sem];apply hK;refine zah ?_;refine zan fun K hK=>?_;simp only [go_sem,seval];apply hK;refine zaF ?_;refine zan fun K hK=>?_;simp only [go_sem,seval];apply hK;refine zbB (decide (a0=([124]:Str))) (by simp only [go_sem,↓reduceIte]) (fun c1=>?_) (fun c1=>?_)
 ·replace h:=zaB c1 h;refine zan fun K hK=>?_;simp only [go_sem,seval,c1];apply hK;refine zau ?_
  try simp only [zas,zaA]
  obtain rfl:=zaf h;refine ⟨by simp,?_⟩;simp only [go_sem,↓reduceIte,zak]
 ·replace h:=zaC c1 h;refine zan fun K hK=>?_;simp only [go_sem,seval,c1];apply hK;refine zbB (decide (a0=([94]:Str))) (by simp only [go_sem,↓reduceIte]) (fun c2=>?_) (fun c2=>?_)
  ·replace h:=zaB c2 h;refine zan fun K hK=>?_;simp only [go_sem,seval,c2];apply hK;refine zau ?_
   try simp only [zas,zaA]
   obtain rfl:=zaf h;refine ⟨by simp,?_⟩;simp only [go_sem,↓reduceIte,zak]
  ·replace h:=zaC c2 h;refine zan fun K hK=>?_;simp only [go_sem,seval,c2];apply hK;refine zbB (decide (a0=([38]:Str))) (by simp only [go_sem,↓reduceIte]) (fun c3=>?_) (fun c3=>?_)
   ·replace h:=zaB c3 h;refine zan fun K hK=>?_;simp only [go_sem,seval,c3];apply hK;refine zau ?_
    try simp only [zas,zaA]
    obtain rfl:=zaf h;refine ⟨by simp,?_⟩;simp only [go_sem,↓reduceIte,zak]
   ·replace h:=zaC c3 h;refine zan fun K hK=>?_;simp only [go_sem,seval,c3];apply hK;refine zbB (decide (a0=([43]:Str))) (by simp only [go_sem,↓reduceIte]) (fun c4=>?_) (fun c4=>?_)
    ·replace h:=zaB c4 h;refine zan fun K hK=>?_;simp only [go_sem,seval,c4];apply hK;refine zau ?_
     try simp only [zas,zaA]
     obtain rfl:=zaf h;refine ⟨by simp,?_⟩;simp only [go_sem,↓reduceIte,zak]
    ·replace h:=zaC c4 h;refine zan fun K hK=>?_;simp only [go_sem,seval,c4];apply hK;refine zbB (decide (a0=([45]:Str))) (by simp only [go_sem,↓reduceIte]) (fun c5=>?_) (fun c5=>?_)
     ·replace h:=zaB c5 h;refine zan fun K hK=>?_;simp only [go_sem,seval,c5];apply hK;refine zau ?_
      try simp only [zas,zaA]
      obtain rfl:=zaf h;refine ⟨by simp,?_⟩;simp only [go_sem,↓reduceIte,zak]
     ·replace h:=zaC c5 h;refine zan fun K hK=>?_;simp only [go_sem,seval,c5];apply hK;refine zbB (decide (a0=([60,60]:Str))) (by simp only [go_sem,↓reduceIte]) (fun c6=>?_) (fun c6=>?_)
      ·replace h:=zaB c6 h;refine zah ?_;obtain ⟨f7,h⟩:=zaO h;refine zap fun K hK=>?_;simp only [go_sem,seval,c6,f7];apply hK;refine zau ?_
       try simp only [zas,zaA]
       obtain rfl:=zaf h;refine ⟨by simp,?_⟩;simp only [go_sem,↓reduceIte,zak]
      ·replace h:=zaC c6 h;refine zan fun K hK=>?_;simp only [go_sem,seval,c6];apply hK;refine zbB (decide (a0=([62,62]:Str))) (by simp only [go_sem,↓reduceIte]) (fun c8=>?_) (fun c8=>?_)
       ·replace h:=zaB c8 h;refine zah ?_;obtain ⟨f9,h⟩:=zaO h;refine zap fun K hK=>?_;simp only [go_sem,seval,c8,f9];apply hK;refine zau ?_
        try simp only [zas,zaA]
        obtain rfl:=zaf h;refine ⟨by simp,?_⟩;simp only [go_sem,↓reduceIte,zak]
       ·replace h:=zaC c8 h;refine zan fun K hK=>?_;simp only [go_sem,seval,c8];apply hK;refine zbB (decide (a0=([60,60,60]:Str))) (by simp only [go_sem,↓reduceIte]) (fun c10=>?_) (fun c10=>?_)
        ·replace h:=zaB c10 h;refine zah ?_;obtain ⟨x11,h12,h⟩:=bind_some h;refine zap fun K hK=>?_;simp only [go_sem,seval,c10];refine SC.by_ (zhN a1 (IntKind.i64.wrap a2) _ h12 _ _ _ (by simp only [go_sem])) ?_;simp only [go_sem,seval];apply hK;refine zau ?_
         try simp only [zas,zaA]
         obtain rfl:=zaf h;refine ⟨by simp,?_⟩;simp only [go_sem,↓reduceIte,zak]
        ·replace h:=zaC c10 h;refine zan fun K hK=>?_;simp only [go_sem,seval,c10];apply hK;refine zbB (decide (a0=([61,61]:Str))) (by simp only [go_sem,↓reduceIte]) (fun c13=>?_) (fun c13=>?_)
         ·replace h:=zaB c13 h;refine zah ?_;obtain ⟨x14,h15,h⟩:=bind_some h;refine zap fun K hK=>?_;simp only [go_sem,seval,c13];refine SC.by_ (zjw (a1 == a2) _ h15 _ _ _ (by simp only [go_sem])) ?_;simp only [go_sem,seval];apply hK;refine zau ?_
          try simp only [zas,zaA]
          obtain rfl:=zaf h;refine ⟨by simp,?_⟩;simp only [go_sem,↓reduceIte,zak]
         ·replace h:=zaC c13 h;refine zan fun K hK=>?_;simp only [go_sem,seval,c13];apply hK;refine zbB (decide (a0=([60]:Str))) (by simp only [go_sem,↓reduceIte]) (fun c16=>?_) (fun c16=>?_)
          ·replace h:=zaB c16 h;refine zah ?_;obtain ⟨x17,h18,h⟩:=bind_some h;refine zap fun K hK=>?_;simp only [go_sem,seval,c16];refine SC.by_ (zjw (decide (a1<a2)) _ h18 _ _ _ (by simp only [go_sem])) ?_;simp only [go_sem,seval];apply hK;refine zau ?_
           try simp only [zas,zaA]
           obtain rfl:=zaf h;refine ⟨by simp,?_⟩;simp only [go_sem,↓reduceIte,zak]
          ·replace h:=zaC c16 h;refine zan fun K hK=>?_;simp only [go_sem,seval,c16];apply hK;refine zbB (decide (a0=([110,111,116]:Str))) (by simp only [go_sem,↓reduceIte]) (fun c19=>?_) (fun c19=>?_)
           ·replace h:=zaB c19 h;refine zan fun K hK=>?_;simp only [go_sem,seval,c19];apply hK;refine zau ?_
            try simp only [zas,zaA]
            obtain rfl:=zaf h;refine ⟨by simp,?_⟩;simp only [go_sem,↓reduceIte,zak]
           ·replace h:=zaC c19 h;refine zaw ?_
            try simp only [zaa,zaq]
            refine zan fun K hK=>?_;simp only [go_sem,seval,c19];apply hK;refine zau ?_;obtain rfl:=zaf h;refine ⟨by simp,?_⟩;simp only [go_sem,↓reduceIte,zak]
def zoh (f:Int->Option zaJ):Prop:=∀a0 r,f a0=some r->∀(q:Pa) (m:M) (vs:List V),vs.map V.weak1=[.lit (.int .u32 a0)]->SC Tryz.prog 208 vs q m (fun v m'=>v=.agg ((zaJ.C r))/\m'=m)
theorem zjF:zoh (zkK):=by
 intro a0 r h q m vs hv;refine SC.weak ?_;rw [hv];refine SC_w Tryz.func208 rfl (fun xs w=>Tryz.call208 xs w) Tryz.ntmps208 (by kernel_rfl) Tryz.results208 ?_;unfold zkK at h;refine zan fun K hK=>?_;simp only [go_sem];apply hK;refine zan fun K hK=>?_;simp only [go_sem,seval];apply hK;refine zau ?_;obtain rfl:=zaf h;refine ⟨by simp,?_⟩;simp only [go_sem,seval,zam,zaX,zak]
def zmU (f:zaJ->(List Int)->Option Int):Prop:=∀a0 a1 r,f a0 a1=some r->∀(q:Pa) (m:M) (vs:List V),vs.map V.weak1=[.agg ((zaJ.C a0)),.list .none (a1.map (cI .u32))]->SC Tryz.prog 227 vs q m (fun v m'=>v=.lit (.int .u32 r)/\m'=m)
theorem zmk:zmU (zk4):=by
 intro a0 a1 r h q m vs hv;refine SC.weak ?_;rw [hv];refine SC_w Tryz.func227 rfl (fun xs w=>Tryz.call227 xs w) Tryz.ntmps227 (by kernel_rfl) Tryz.results227 ?_;unfold zk4 at h;refine zan fun K hK=>?_;simp only [go_sem,Nat.reduceAdd];apply hK;refine zah ?_;refine zan fun K hK=>?_;simp only [go_sem,seval];apply hK;refine zbh (a0.Op_ == (1:Int)) (fun c2=>?_) (fun c2=>?_)
 ·replace h:=zaB c2 h;refine zan fun K hK=>?_;simp only [go_sem,seval,c2];apply hK;refine zau ?_
  try simp only [zas]
  obtain rfl:=zaf h;refine ⟨by simp,?_⟩;simp only [go_sem,↓reduceIte,zam,zak]
 ·replace h:=zaC c2 h;refine zaw ?_
  try simp only [zaa]
  refine zah ?_;refine zan fun K hK=>?_;simp only [go_sem,seval,c2];apply hK;refine zbB (decide ((IntKind.i64.wrap a0.N_)<(a1.length:Int))) (by simp only [go_sem,↓reduceIte]) (fun c3=>?_) (fun c3=>?_)
  ·replace h:=zaB c3 h;refine zah ?_;obtain ⟨x4,h8,h⟩:=bind_some h;obtain ⟨f5,f6,f7⟩:=zav h8;refine zap fun K hK=>?_;simp only [go_sem,seval,c3,f5,f6,f7];apply hK;refine zau ?_
   try simp only [zas]
   obtain rfl:=zaf h;refine ⟨by simp,?_⟩;simp only [go_sem,↓reduceIte,zam,zak]
  ·replace h:=zaC c3 h;refine zaw ?_
   try simp only [zaa]
   refine zan fun K hK=>?_;simp only [go_sem,Nat.reduceAdd,c3];apply hK;refine zau ?_;obtain rfl:=zaf h;refine ⟨by simp,?_⟩;simp only [go_sem,↓reduceIte,zam,zak]
def zmi (f:Bool->Option Int):Prop:=∀a0 r,f a0=some r->∀(q:Pa) (m:M) (vs:List V),vs.map V.weak1=[.lit (.bool a0)]->SC Tryz.prog 228 vs q m (fun v m'=>v=.lit (.int .u32 r)/\m'=m)
theorem zir:zmi (zhV):=by
 intro a0 r h q m vs hv;refine SC.weak ?_;rw [hv];refine SC_w Tryz.func228 rfl (fun xs w=>Tryz.call228 xs w) Tryz.ntmps228 (by kernel_rfl) Tryz.results228 ?_;unfold zhV at h;refine zan fun K hK=>?_;simp only [go_sem];apply hK;refine zah ?_;refine zan fun K hK=>?_;simp only [go_sem,seval];apply hK;refine zbh a0 (fun c1=>?_) (fun c1=>?_)
 ·replace h:=zaB c1 h;refine zan fun K hK=>?_;simp only [go_sem,Nat.reduceAdd,c1];apply hK;refine zau ?_
  try simp only [zas]
  obtain rfl:=zaf h;refine ⟨by simp,?_⟩;simp only [go_sem,↓reduceIte,zak]
 ·replace h:=zaC c1 h;refine zaw ?_
  try simp only [zaa]
  refine zan fun K hK=>?_;simp only [go_sem,Nat.reduceAdd,c1];apply hK;refine zau ?_;obtain rfl:=zaf h;refine ⟨by simp,?_⟩;simp only [go_sem,↓reduceIte,zak]
def znG (f:Int->Int->Option Int):Prop:=∀a0 a1 r,f a0 a1=some r->∀(q:Pa) (m:M) (vs:List V),vs.map V.weak1=[.lit (.int .i64 a0),.lit (.int .u32 a1)]->SC Tryz.prog 229 vs q m (fun v m'=>v=.lit (.int .u32 r)/\m'=m)
theorem zmT:znG (zlP):=by
 intro a0 a1 r h q m vs hv;refine SC.weak ?_;rw [hv];refine SC_w Tryz.func229 rfl (fun xs w=>Tryz.call229 xs w) Tryz.ntmps229 (by kernel_rfl) Tryz.results229 ?_;unfold zlP at h;refine zan fun K hK=>?_;simp only [go_sem];apply hK;refine zah ?_;refine zan fun K hK=>?_;simp only [go_sem,seval];apply hK;refine zbh (a0 == (3:Int)) (fun c1=>?_) (fun c1=>?_)
 ·replace h:=zaB c1 h;refine zan fun K hK=>?_;simp only [go_sem,seval,c1];apply hK;refine zau ?_
  try simp only [zas]
  obtain rfl:=zaf h;refine ⟨by simp,?_⟩;simp only [go_sem,↓reduceIte,zak]
 ·replace h:=zaC c1 h;refine zaw ?_
  try simp only [zaa]
  refine zan fun K hK=>?_;simp only [go_sem,seval,c1];apply hK;refine zau ?_;obtain rfl:=zaf h;refine ⟨by simp,?_⟩;simp only [go_sem,↓reduceIte,zak]
def zij (f:Int->Int->Option Int):Prop:=∀a0 a1 r,f a0 a1=some r->∀(q:Pa) (m:M) (vs:List V),vs.map V.weak1=[.lit (.int .u32 a0),.lit (.int .i64 a1)]->SC Tryz.prog 243 vs q m (fun v m'=>v=.lit (.int .u32 r)/\m'=m)
theorem zhO:zij (ze5):=by
 intro a0 a1 r h q m vs hv;refine SC.weak ?_;rw [hv];refine SC_w Tryz.func243 rfl (fun xs w=>Tryz.call243 xs w) Tryz.ntmps243 (by kernel_rfl) Tryz.results243 ?_;unfold ze5 at h;refine zan fun K hK=>?_;simp only [go_sem];apply hK;refine zan fun K hK=>?_;simp only [go_sem,seval];apply hK;refine zah ?_;obtain ⟨f1,h⟩:=zaO h;obtain ⟨f2,h⟩:=zaO h;refine zap fun K hK=>?_;simp only [go_sem,seval,f1,f2];apply hK;refine zau ?_;obtain rfl:=zaf h;refine ⟨by simp,?_⟩;simp only [go_sem,↓reduceIte,zak]
def zmj (f:Int->Int->Int->Option Int):Prop:=∀a0 a1 a2 r,f a0 a1 a2=some r->∀(q:Pa) (m:M) (vs:List V),vs.map V.weak1=[.lit (.int .i64 a0),.lit (.int .u32 a1),.lit (.int .u32 a2)]->SC Tryz.prog 241 vs q m (fun v m'=>v=.lit (.int .u32 r)/\m'=m)
theorem zlQ:zmj (zkJ):=by
 intro a0 a1 a2 r h q m vs hv;refine SC.weak ?_;rw [hv];refine SC_w Tryz.func241 rfl (fun xs w=>Tryz.call241 xs w) Tryz.ntmps241 (by kernel_rfl) Tryz.results241 ?_;unfold zkJ at h;refine zan fun K hK=>?_;simp only [go_sem];apply hK;refine zah ?_;refine zan fun K hK=>?_;simp only [go_sem,seval];apply hK;refine zaF ?_;refine zan fun K hK=>?_;simp only [go_sem,seval];apply hK;refine zbh (a0 == (5:Int)) (fun c1=>?_) (fun c1=>?_)
 ·replace h:=zaB c1 h;refine zan fun K hK=>?_;simp only [go_sem,seval,c1];apply hK;refine zau ?_
  try simp only [zas,zaA]
  obtain rfl:=zaf h;refine ⟨by simp,?_⟩;simp only [go_sem,↓reduceIte,zak]
 ·replace h:=zaC c1 h;refine zan fun K hK=>?_;simp only [go_sem,seval,c1];apply hK;refine zbh (a0 == (6:Int)) (fun c2=>?_) (fun c2=>?_)
  ·replace h:=zaB c2 h;refine zan fun K hK=>?_;simp only [go_sem,seval,c2];apply hK;refine zau ?_
   try simp only [zas,zaA]
   obtain rfl:=zaf h;refine ⟨by simp,?_⟩;simp only [go_sem,↓reduceIte,zak]
  ·replace h:=zaC c2 h;refine zan fun K hK=>?_;simp only [go_sem,seval,c2];apply hK;refine zbh (a0 == (7:Int)) (fun c3=>?_) (fun c3=>?_)
   ·replace h:=zaB c3 h;refine zan fun K hK=>?_;simp only [go_sem,seval,c3];apply hK;refine zau ?_
    try simp only [zas,zaA]
    obtain rfl:=zaf h;refine ⟨by simp,?_⟩;simp only [go_sem,↓reduceIte,zak]
   ·replace h:=zaC c3 h;refine zan fun K hK=>?_;simp only [go_sem,seval,c3];apply hK;refine zbh (a0 == (10:Int)) (fun c4=>?_) (fun c4=>?_)
    ·replace h:=zaB c4 h;refine zah ?_;obtain ⟨f5,h⟩:=zaO h;refine zap fun K hK=>?_;simp only [go_sem,seval,c4,f5];apply hK;refine zau ?_
     try simp only [zas,zaA]
     obtain rfl:=zaf h;refine ⟨by simp,?_⟩;simp only [go_sem,↓reduceIte,zak]
    ·replace h:=zaC c4 h;refine zan fun K hK=>?_;simp only [go_sem,seval,c4];apply hK;refine zbh (a0 == (11:Int)) (fun c6=>?_) (fun c6=>?_)
     ·replace h:=zaB c6 h;refine zah ?_;obtain ⟨f7,h⟩:=zaO h;refine zap fun K hK=>?_;simp only [go_sem,seval,c6,f7];apply hK;refine zau ?_
      try simp only [zas,zaA]
      obtain rfl:=zaf h;refine ⟨by simp,?_⟩;simp only [go_sem,↓reduceIte,zak]
     ·replace h:=zaC c6 h;refine zaw ?_
      try simp only [zaa,zaq]
      refine zah ?_;obtain ⟨x8,h9,h⟩:=bind_some h;refine zap fun K hK=>?_;simp only [go_sem,seval,c6];refine SC.by_ (zhO a1 (IntKind.i64.wrap (andK .u32 a2 (31:Int))) _ h9 _ _ _ (by simp only [go_sem])) ?_;simp only [go_sem,seval];apply hK;refine zau ?_;obtain rfl:=zaf h;refine ⟨by simp,?_⟩;simp only [go_sem,↓reduceIte,zak]
def znF (f:Int->Int->Int->Option (Int × Bool)):Prop:=∀a0 a1 a2 r,f a0 a1 a2=some r->∀(q:Pa) (m:M) (vs:List V),vs.map V.weak1=[.lit (.int .i64 a0),.lit (.int .u32 a1),.lit (.int .u32 a2)]->SC Tryz.prog 230 vs q m (fun v m'=>v=.tup [.lit (.int .u32 r.1),.lit (.bool r.2)]/\m'=m)
theorem zmS:znF (zlO):=by
 intro a0 a1 a2 r h q m vs hv;refine SC.weak ?_;rw [hv];refine SC_w Tryz.func230 rfl (fun xs w=>Tryz.call230 xs w) Tryz.ntmps230 (by kernel_rfl) Tryz.results230 ?_;unfold zlO at h;refine zan fun K hK=>?_;simp only [go_sem,Nat.reduceAdd];apply hK;refine zah ?_;refine zan fun K hK=>?_;simp only [go_sem,seval];apply hK;refine zaF ?_;refine zan fun K hK=>?_;simp only [go_sem,seval];apply hK;refine zbh (a0 == (8:Int)) (fun c1=>?_) (fun c1=>?_)
 ·replace h:=zaB c1 h;refine zah ?_;obtain ⟨x2,h3,h⟩:=bind_some h;refine zap fun K hK=>?_;simp only [go_sem,seval,c1];refine SC.by_ (zir (a1 == a2) _ h3 _ _ _ (by simp only [go_sem])) ?_;simp only [go_sem,seval];apply hK;refine zau ?_
  try simp only [zas,zaA]
  obtain rfl:=zaf h;refine ⟨by simp,?_⟩;simp only [go_sem,seval,zak]
 ·replace h:=zaC c1 h;refine zan fun K hK=>?_;simp only [go_sem,seval,c1];apply hK;refine zbh (a0 == (9:Int)) (fun c4=>?_) (fun c4=>?_)
  ·replace h:=zaB c4 h;refine zah ?_;obtain ⟨x5,h6,h⟩:=bind_some h;refine zap fun K hK=>?_;simp only [go_sem,seval,c4];refine SC.by_ (zir (decide (a1<a2)) _ h6 _ _ _ (by simp only [go_sem])) ?_;simp only [go_sem,seval];apply hK;refine zau ?_
   try simp only [zas,zaA]
   obtain rfl:=zaf h;refine ⟨by simp,?_⟩;simp only [go_sem,seval,zak]
  ·replace h:=zaC c4 h;refine zan fun K hK=>?_;simp only [go_sem,seval,c4];apply hK;refine zbh (a0 == (13:Int)) (fun c7=>?_) (fun c7=>?_)
   ·replace h:=zaB c7 h;refine zan fun K hK=>?_;simp only [go_sem,seval,c7];apply hK;refine zau ?_
    try simp only [zas,zaA]
    obtain rfl:=zaf h;refine ⟨by simp,?_⟩;simp only [go_sem,seval,zak]
   ·replace h:=zaC c7 h;refine zan fun K hK=>?_;simp only [go_sem,seval,c7];apply hK;refine zbh (a0 == (14:Int)) (fun c8=>?_) (fun c8=>?_)
    ·replace h:=zaB c8 h;refine zan fun K hK=>?_;simp only [go_sem,seval,c8];apply hK;refine zau ?_
     try simp only [zas,zaA]
     obtain rfl:=zaf h;refine ⟨by simp,?_⟩;simp only [go_sem,seval,zak]
    ·replace h:=zaC c8 h;refine zan fun K hK=>?_;simp only [go_sem,seval,c8];apply hK;refine zbh (a0 == (15:Int)) (fun c9=>?_) (fun c9=>?_)
     ·replace h:=zaB c9 h;refine zan fun K hK=>?_;simp only [go_sem,seval,c9];apply hK;refine zau ?_
      try simp only [zas,zaA]
      obtain rfl:=zaf h;refine ⟨by simp,?_⟩;simp only [go_sem,seval,zak]
     ·replace h:=zaC c9 h;refine zah ?_;refine zan fun K hK=>?_;simp only [go_sem,seval,c9];apply hK;refine zbh (a0 == (16:Int)) (fun c10=>?_) (fun c10=>?_)
      ·replace h:=zaB c10 h;refine zaw ?_
       try simp only [zaa]
       refine zcC true (by simp only [go_sem,↓reduceIte,c10]) ?_;simp only [↓reduceIte];refine zah ?_;refine zan fun K hK=>?_;simp only [go_sem,seval,c10];apply hK;refine zbh (a2 == (0:Int)) (fun c11=>?_) (fun c11=>?_)
       ·replace h:=zaB c11 h;refine zan fun K hK=>?_;simp only [go_sem,Nat.reduceAdd,c11];apply hK;refine zau ?_
        try simp only [zas,zaA]
        obtain rfl:=zaf h;refine ⟨by simp,?_⟩;simp only [go_sem,seval,zak]
       ·replace h:=zaC c11 h;refine zaw ?_
        try simp only [zaa]
        refine zah ?_;refine zan fun K hK=>?_;simp only [go_sem,seval,c10,c11];apply hK;refine zcC true (by simp only [go_sem,↓reduceIte]) ?_;simp only [↓reduceIte];refine zah ?_;obtain ⟨f12,h⟩:=zaO h;refine zap fun K hK=>?_;simp only [go_sem,seval,f12];apply hK;refine zau ?_
        try simp only [zas,zaA]
        obtain rfl:=zaf h;refine ⟨by simp,?_⟩;simp only [go_sem,seval,zak]
      ·replace h:=zaC c10 h;refine zap fun K hK=>?_;simp only [go_sem,seval,c10];apply hK;refine zbh (a0 == (17:Int)) (fun c13=>?_) (fun c13=>?_)
       ·replace h:=zaB c13 h;refine zah ?_;refine zan fun K hK=>?_;simp only [go_sem,seval,c13];apply hK;refine zbh (a2 == (0:Int)) (fun c14=>?_) (fun c14=>?_)
        ·replace h:=zaB c14 h;refine zan fun K hK=>?_;simp only [go_sem,Nat.reduceAdd,c14];apply hK;refine zau ?_
         try simp only [zas,zaA]
         obtain rfl:=zaf h;refine ⟨by simp,?_⟩;simp only [go_sem,seval,zak]
        ·replace h:=zaC c14 h;refine zaw ?_
         try simp only [zaa]
         refine zah ?_;refine zan fun K hK=>?_;simp only [go_sem,seval,c10,c14];apply hK;refine zcC false (by simp only [go_sem,↓reduceIte]) ?_;simp only [↓reduceIte,Bool.false_eq_true];refine zaw ?_
         try simp only [zaa]
         refine zah ?_;obtain ⟨f15,h⟩:=zaO h;refine zap fun K hK=>?_;simp only [go_sem,seval,f15];apply hK;refine zau ?_
         try simp only [zas,zaA]
         obtain rfl:=zaf h;refine ⟨by simp,?_⟩;simp only [go_sem,seval,zak]
       ·replace h:=zaC c13 h;refine zaw ?_
        try simp only [zaa,zaq]
        refine zah ?_;obtain ⟨x16,h17,h⟩:=bind_some h;refine zap fun K hK=>?_;simp only [go_sem,seval,c13];refine SC.by_ (zlQ a0 a1 a2 _ h17 _ _ _ (by simp only [go_sem])) ?_;simp only [go_sem,seval];apply hK;refine zau ?_;obtain rfl:=zaf h;refine ⟨by simp,?_⟩;simp only [go_sem,seval,zak]
def zj9 (f:zaJ->(List Int)->Option (Int × Bool)):Prop:=∀a0 a1 r,f a0 a1=some r->∀(q:Pa) (m:M) (vs:List V),vs.map V.weak1=[.agg ((zaJ.C a0)),.list .none (a1.map (cI .u32))]->SC Tryz.prog 209 vs q m (fun v m'=>v=.tup [.lit (.int .u32 r.1),.lit (.bool r.2)]/\m'=m)
theorem zlq {zfU:zaJ->(List Int)->Option (Int × Bool)} (zj4:zj9 zfU) (n:Nat):zj9 (zj8 zfU n):=by
 intro a0 a1 r h q m vs hv;refine SC.weak ?_;rw [hv];refine SC_w Tryz.func209 rfl (fun xs w=>Tryz.call209 xs w) Tryz.ntmps209 (by kernel_rfl) Tryz.results209 ?_;unfold zj8 at h;refine zan fun K hK=>?_;simp only [go_sem,Nat.reduceAdd];apply hK;refine zah ?_;refine zan fun K hK=>?_;simp only [go_sem,seval];apply hK;refine zbh ((a0.zay.length:Int) == (0:Int)) (fun c2=>?_) (fun c2=>?_)
 ·replace h:=zaB c2 h;refine zah ?_;obtain ⟨x3,h4,h⟩:=bind_some h;refine zap fun K hK=>?_;simp only [go_sem,seval,c2];refine SC.by_ (zmk a0 a1 _ h4 _ _ _ (by simp only [go_sem])) ?_;simp only [go_sem,seval];apply hK;refine zau ?_
  try simp only [zas]
  obtain rfl:=zaf h;refine ⟨by simp,?_⟩;simp only [go_sem,seval,zam,zak]
 ·replace h:=zaC c2 h;refine zaw ?_
  try simp only [zaa]
  refine zah ?_;obtain ⟨x5,h10,h⟩:=bind_some h;obtain ⟨f7,f8,f9⟩:=zav h10;have f11:a0.zay[0]? = some x5:=f9;obtain ⟨x6,h12,h⟩:=bind_some h;refine zap fun K hK=>?_;simp only [go_sem,seval,c2,f7,f8,f11];refine SC.by_ (zj4 x5 a1 _ h12 _ _ _ (by simp only [go_sem])) ?_;simp only [go_sem,seval];apply hK;refine zah ?_;refine zah ?_;obtain ⟨y13,hy13,h⟩:=bind_some h;refine zbd 26 [] [] rfl (fun E' m'=>E' 1=.list .none (a1.map (cI .u32))/\E' 2=.ptr (0::q) 0/\E' 6=.lit (.int .u32 x6.1)/\E' 7=.lit (.bool x6.2)/\E' 32=.lit (.bool y13)/\m'.blk (0::q)=some ((zaJ.C a0))/\m'.gl=m.gl/\m.back q m'=m) ?_ ?_
  ·rcases zbn (!x6.2) with c14 | c14
   ·replace hy13:=zaB c14 hy13;refine zap fun K hK=>?_;simp only [go_sem,seval,c14];apply hK;obtain rfl:=zaf hy13;refine ⟨by decide,?_⟩;simp only [go_sem,seval,zam,zak]
   ·replace hy13:=zaC c14 hy13;refine zap fun K hK=>?_;simp only [go_sem,seval,c14];apply hK;obtain rfl:=zaf hy13;refine ⟨by decide,?_⟩;simp only [go_sem,seval,zam,zak]
  ·intro E15 m16 e17 _;simp only [zaa];refine zbB y13 (by simp only [go_sem,e17]) (fun c18=>?_) (fun c18=>?_)
   ·replace h:=zaB c18 h;refine zah ?_;obtain ⟨x19,h21,h⟩:=bind_some h;obtain ⟨x20,h22,h⟩:=bind_some h;refine zaN (tbl:=[0,1,0,4,0,31,63,0,127,511]) (ord:=[(0,0),(1,0),(2,0),(3,1),(4,0),(5,0),(6,0),(7,0),(8,0),(9,0)]) 36 rfl (by kernel_rfl) (by kernel_rfl) fun K hK=>?_;simp only [go_sem,seval,e17];refine zaQ (zir x6.2 _ h21 _ _ _ (by simp only [go_sem])) rfl ?_;simp only [go_sem,seval,e17];refine zaQ (zmT a0.Op_ x6.1 _ h22 _ _ _ (by simp only [go_sem])) rfl ?_;simp only [go_sem,seval,e17];apply hK;simp only [zaa];refine zau ?_
    try simp only [zas]
    obtain rfl:=zaf h;refine ⟨by simp,?_⟩;simp only [go_sem,seval,e17]
   ·replace h:=zaC c18 h;refine zaw ?_
    try simp only [zaa]
    refine zah ?_;obtain ⟨x23,h28,h⟩:=bind_some h;obtain ⟨f25,f26,f27⟩:=zav h28;have f29:a0.zay[1]? = some x23:=f27;obtain ⟨x24,h30,h⟩:=bind_some h;refine zap fun K hK=>?_;simp only [go_sem,seval,Int.reduceToNat,f25,f26,f29,e17];refine SC.by_ (zj4 x23 a1 _ h30 _ _ _ (by simp only [go_sem])) ?_;simp only [go_sem,seval];apply hK;refine zah ?_;refine zan fun K hK=>?_;simp only [go_sem,seval];apply hK;refine zbh (!x24.2) (fun c31=>?_) (fun c31=>?_)
    ·replace h:=zaB c31 h;refine zan fun K hK=>?_;simp only [go_sem,Nat.reduceAdd,c31];apply hK;refine zau ?_
     try simp only [zas]
     obtain rfl:=zaf h;refine ⟨by simp,?_⟩;simp only [go_sem,seval,e17]
    ·replace h:=zaC c31 h;refine zaw ?_
     try simp only [zaa]
     refine zah ?_;obtain ⟨x32,h33,h⟩:=bind_some h;refine zap fun K hK=>?_;simp only [go_sem,seval,c31,e17];refine SC.by_ (zmS a0.Op_ x6.1 x24.1 _ h33 _ _ _ (by simp only [go_sem])) ?_;simp only [go_sem,seval];apply hK;refine zau ?_;obtain rfl:=zaf h;refine ⟨by simp,?_⟩;simp only [go_sem,seval,e17]
theorem zgo:∀n,zj9 (zhW n)
 | 0=>fun _ _ _ h=>zbO h
 | n+1=>zlq (zgo n) n
def zhC (f:zai->zag->(List Int)->Option (Int × zai)):Prop:=∀a0 a1 a2 r,f a0 a1 a2=some r->∀(q:Pa) (m:M) (vs:List V) (P0:Pa) (zP0:Nat),vs.map V.weak1=[.ptr P0 0,.agg ((zag.C a1)),.list .none (a2.map (cI .u64))]/\m.blk P0=some ((zat.C a0.p_)++[.lit (.int .i64 a0.zdw),.lit (.int .i64 a0.zcG),.lit (.int .i64 a0.e_),.list .self (a0.za3.map zax.C)])/\m.ver P0 4=zP0+a0.za3.length/\m.gl 0=.eptr [(cA zaK.C zbq)] 0 0->SC Tryz.prog 178 vs q m (fun v m'=>v=.lit (.int .u64 r.1)/\m'=(m.setv P0 4 ((zat.C r.2.p_)++[.lit (.int .i64 r.2.zdw),.lit (.int .i64 r.2.zcG),.lit (.int .i64 r.2.e_),.list .self (r.2.za3.map zax.C)]) (zP0+r.2.za3.length)))
theorem zhh (n:Nat):zhC (zeF n):=by
 rintro a0 a1 a2 r h q m vs P0 zP0 ⟨hv,hmP0,hvrP0,hg0⟩;refine SC.weak ?_;rw [hv];refine SC.apart hmP0 fun hpP0=>?_;have hmsP0:=zaY hmP0
 try simp only [go_sem] at hmP0 hmsP0
 refine SC_w Tryz.func178 rfl (fun xs w=>Tryz.call178 xs w) Tryz.ntmps178 (by kernel_rfl) Tryz.results178 ?_;unfold zeF at h;refine zan fun K hK=>?_;simp only [go_sem,Nat.reduceAdd];apply hK;refine zah ?_;obtain ⟨y2,hy2,h⟩:=bind_some h;refine zbd 15 [] [] rfl (fun E' m'=>E' 0=.ptr P0 0/\E' 2=.list .none (a2.map (cI .u64))/\E' 4=.ptr (0::q) 0/\E' 7=.lit (.bool y2)/\m'.blk P0=some ((zat.C a0.p_)++[.lit (.int .i64 a0.zdw),.lit (.int .i64 a0.zcG),.lit (.int .i64 a0.e_),.list .self (a0.za3.map zax.C)])/\m'.blk (0::q)=some ((zag.C a1))/\m'.ver P0 4=zP0+a0.za3.length/\m'.gl=m.gl/\m.back q m'=(m.setv P0 4 ((zat.C a0.p_)++[.lit (.int .i64 a0.zdw),.lit (.int .i64 a0.zcG),.lit (.int .i64 a0.e_),.list .self (a0.za3.map zax.C)]) (zP0+a0.za3.length))) ?_ ?_
 ·rcases zbn (decide ((0:Int)<(a1.zay.length:Int))) with c3 | c3
  ·replace hy2:=zaB c3 hy2;obtain ⟨x4,h8,hy2⟩:=bind_some hy2;obtain ⟨f5,f6,f7⟩:=zav h8;have f9:a1.zay[0]? = some x4:=f7;refine zap fun K hK=>?_;simp only [go_sem,seval,f5,f6,f9];apply hK;obtain rfl:=zaf hy2;refine ⟨by decide,?_⟩;simp only [go_sem,seval,zam,zak,hmsP0,zdI hvrP0,hvrP0,pz2 hpP0,hmP0]
  ·replace hy2:=zaC c3 hy2;refine zap fun K hK=>?_;simp only [go_sem,seval,c3];apply hK;obtain rfl:=zaf hy2;refine ⟨by decide,?_⟩;simp only [go_sem,seval,zam,zak,hmsP0,zdI hvrP0,hvrP0,pz2 hpP0,hmP0]
 ·intro E10 m11 e12 _;simp only [zaa];refine zan fun K hK=>?_;simp only [go_sem,Nat.reduceAdd];apply hK;refine zah ?_;refine zan fun K hK=>?_;simp only [go_sem,seval,e12];apply hK;refine zbB (decide ((1:Int)<(a2.length:Int))) (by simp only [go_sem,↓reduceIte]) (fun c13=>?_) (fun c13=>?_)
  ·replace h:=zaB c13 h;obtain ⟨x14,h18,h⟩:=bind_some h;obtain ⟨f15,f16,f17⟩:=zav h18;have f19:a2[1]? = some x14:=f17;refine zap fun K hK=>?_;simp only [go_sem,seval,Int.reduceToNat,f15,f16,f19,e12];apply hK;refine zah ?_;refine zan fun K hK=>?_;simp only [go_sem,seval,e12];apply hK;refine zbh y2 (fun c20=>?_) (fun c20=>?_)
   ·replace h:=zaB c20 h;refine zah ?_;obtain ⟨x21,h26,h⟩:=bind_some h;obtain ⟨f23,f24,f25⟩:=zav h26;have f27:a2[0]? = some x21:=f25;obtain ⟨x22,h28,h⟩:=bind_some h;refine zaN (tbl:=[0,1,0,4,12,0,63,127]) (ord:=[(0,0),(1,0),(2,0),(3,0),(4,0),(5,0),(6,0),(7,0)]) 32 rfl (by kernel_rfl) (by kernel_rfl) fun K hK=>?_;simp only [go_sem,seval,c20,f23,f24,f27,e12];refine zaQ (zj3 a1.Op_ x21 x14 _ h28 _ _ _ (by simp only [go_sem])) rfl ?_;simp only [go_sem,↓reduceIte];apply hK;simp only [zaa];refine zau ?_
    try simp only [zas]
    obtain rfl:=zaf h;refine ⟨by simp,?_⟩;simp only [go_sem,↓reduceIte,hmsP0,zdI hvrP0,e12]
   ·replace h:=zaC c20 h;refine zaw ?_
    try simp only [zaa]
    refine zah ?_;refine zah ?_;obtain ⟨y29,hy29,h⟩:=bind_some h;refine zbd 32 [] [] rfl (fun E' m'=>E' 0=.ptr P0 0/\E' 2=.list .none (a2.map (cI .u64))/\E' 4=.ptr (0::q) 0/\E' 8=.lit (.int .u64 x14)/\E' 47=.lit (.bool y29)/\m'.blk P0=some ((zat.C a0.p_)++[.lit (.int .i64 a0.zdw),.lit (.int .i64 a0.zcG),.lit (.int .i64 a0.e_),.list .self (a0.za3.map zax.C)])/\m'.blk (0::q)=some ((zag.C a1))/\m'.ver P0 4=zP0+a0.za3.length/\m'.gl=m.gl/\m.back q m'=(m.setv P0 4 ((zat.C a0.p_)++[.lit (.int .i64 a0.zdw),.lit (.int .i64 a0.zcG),.lit (.int .i64 a0.e_),.list .self (a0.za3.map zax.C)]) (zP0+a0.za3.length))) ?_ ?_
    ·rcases zbn (decide (a1.Op_=([47]:Str))) with c30 | c30
     ·replace hy29:=zaB c30 hy29;refine zap fun K hK=>?_;simp only [go_sem,seval,c20,c30,e12];apply hK;obtain rfl:=zaf hy29;refine ⟨by decide,?_⟩;simp only [go_sem,seval,hmsP0,zdI hvrP0,e12]
     ·replace hy29:=zaC c30 hy29;refine zap fun K hK=>?_;simp only [go_sem,seval,c20,c30,e12];apply hK;obtain rfl:=zaf hy29;refine ⟨by decide,?_⟩;simp only [go_sem,seval,hmsP0,zdI hvrP0,e12]
    ·intro E31 m32 e33 _;simp only [zaa];refine zbB y29 (by simp only [go_sem,e33]) (fun c34=>?_) (fun c34=>?_)
     ·replace h:=zaB c34 h;obtain ⟨x35,h40,h⟩:=bind_some h;obtain ⟨f37,f38,f39⟩:=zav h40;have f41:a2[0]? = some x35:=f39;obtain ⟨x36,h42,h⟩:=bind_some h;refine zap fun K hK=>?_;simp only [go_sem,seval,f37,f38,f41,e33];refine SC.by_ (zcw a0 (4:Int) (IntKind.u32.wrap x35) (IntKind.u32.wrap x14) _ h42 _ _ _ P0 zP0 (by simp only [go_sem,e33])) ?_;simp only [go_sem,Nat.reduceAdd];apply hK;refine zah ?_;obtain ⟨x43,h45,h⟩:=bind_some h;refine zap fun K hK=>?_;simp only [go_sem,seval,pz2 hpP0,e33];refine SC.by_ (zfq n a1.Op_ _ h45 _ _ _ (by simp only [go_sem,e33,hg0])) ?_;simp only [go_sem,seval];apply hK;refine zah ?_;refine zan fun K hK=>?_;simp only [go_sem,seval,e33];apply hK;refine zaF ?_;obtain ⟨y49,hy49,h⟩:=bind_some h;refine zbu [] [] rfl (fun c E' m'=>∃v47 v48,zcs a2 c v47 v48=some y49/\E' 0=.ptr P0 0/\E' 9=.ptr (44::q) 0/\E' 60=.list .none (a2.map (cI .u64))/\E' 61=.lit (.int .i64 (a2.length:Int))/\E' 62=.lit (.int .i64 v47)/\m'.blk P0=some ((zat.C x36.p_)++[.lit (.int .i64 x36.zdw),.lit (.int .i64 x36.zcG),.lit (.int .i64 x36.e_),.list .self (x36.za3.map zax.C)])/\m'.blk (44::q)=some ([.lit (.int .i64 v48.Op_),.lit (.int .u32 v48.N_),.list .self (v48.zay.map zaJ.C)])/\m'.ver P0 4=zP0+x36.za3.length/\m'.gl=m.gl/\m.back q m'=(m.setv P0 4 ((zat.C x36.p_)++[.lit (.int .i64 x36.zdw),.lit (.int .i64 x36.zcG),.lit (.int .i64 x36.e_),.list .self (x36.za3.map zax.C)]) (zP0+x36.za3.length))) n ⟨(0:Int),(zaJ.mk x43 (0:Int) []),hy49,?_⟩ ?_
      ·simp only [go_sem,seval,zam,zaX,hmsP0,zbK hpP0,zdI hvrP0,pz2 hpP0,e33]
      rintro i46 c50 E51 m52 ⟨v47,v48,hy49,e53⟩ _
      rcases c50 with _ | c50
      ·exact absurd hy49 (by rw [zcs];exact fun e=>nomatch e)
      rw [zcs] at hy49;refine zan fun K hK=>?_;simp only [go_sem,e53];apply hK;refine zah ?_;refine zbB (decide (v47<(a2.length:Int))) (by simp only [go_sem,↓reduceIte]) (fun c54=>?_) (fun c54=>?_)
      ·replace hy49:=zaB c54 hy49;refine zaw ?_
       try simp only [zaa]
       refine zah ?_;refine zaF ?_;refine zah ?_;obtain ⟨x55,h59,hy49⟩:=bind_some hy49;obtain ⟨f56,f57,f58⟩:=zav h59;refine zap fun K hK=>?_;simp only [go_sem,seval,f56,f57,f58,e53];apply hK;obtain ⟨x60,h61,hy49⟩:=bind_some hy49;obtain ⟨f62,hy49⟩:=zaO hy49;have f63:v48.zay.length+1<=1073741824:=by first | omega | (simp only [List.length_append,List.length_cons,List.length_nil] at f62 ⊢;omega)
       have f64:v48.zay.length<=1073741823:=by first | omega | (simp only [List.length_append,List.length_cons,List.length_nil] at f62 ⊢;omega)
       refine zaN (tbl:=[0,1,0,4,12,28,63,127,255]) (ord:=[(2,0),(3,0),(4,0),(0,0),(1,1),(5,0),(6,0),(7,0),(8,0)]) 13 rfl (by kernel_rfl) (by kernel_rfl) fun K hK=>?_;simp only [go_sem,seval];refine zaQ (zjF (IntKind.u32.wrap x55) _ h61 _ _ _ (by simp only [go_sem])) rfl ?_;simp only [go_sem,seval,f63,e53];apply hK;simp only [zaa,zaq];refine zap fun K hK=>?_;simp only [go_sem,seval,e53];apply hK;refine ⟨c50,Nat.lt_succ_self _,(IntKind.i64.wrap (v47+(1:Int))),({ v48 with zay:=(v48.zay++[x60]) }:zaJ),hy49,?_⟩;simp only [go_sem,seval,zam,zaX,zaU,pz2 hpP0,e53]
      ·replace hy49:=zaC c54 hy49;refine zbA ?_
       try simp only [zaR,zaI,↓reduceIte,zaa]
       obtain rfl:=zaf hy49;refine zah ?_;obtain ⟨x65,h66,h⟩:=bind_some h;refine zap fun K hK=>?_;simp only [go_sem,seval,c54,e53];refine SC.by_ (zgo n v48 [] _ h66 _ _ _ (by simp only [go_sem])) ?_;simp only [go_sem,seval];apply hK;refine zah ?_;refine zan fun K hK=>?_;simp only [go_sem,seval];apply hK;refine zbh (!x65.2) (fun c67=>?_) (fun c67=>?_)
       ·replace h:=zaB c67 h;refine zap fun K hK=>?_;simp only [go_sem,seval,c67,e53];apply hK;refine zan fun K hK=>?_;simp only [go_sem,seval];apply hK;refine zau ?_;obtain rfl:=zaf h;refine ⟨by simp,?_⟩;simp only [go_sem,↓reduceIte,zaz hpP0,e53]
       ·replace h:=zaC c67 h;refine zaw ?_
        try simp only [zaa]
        refine zan fun K hK=>?_;simp only [go_sem,seval,c67];apply hK;refine zau ?_;obtain rfl:=zaf h;refine ⟨by simp,?_⟩;simp only [go_sem,↓reduceIte,e53]
     ·replace h:=zaC c34 h;refine zaw ?_
      try simp only [zaa]
      refine zah ?_;obtain ⟨x71,h73,h⟩:=bind_some h;refine zap fun K hK=>?_;simp only [go_sem,seval,e33];refine SC.by_ (zfq n a1.Op_ _ h73 _ _ _ (by simp only [go_sem,e33,hg0])) ?_;simp only [go_sem,seval];apply hK;refine zah ?_;refine zan fun K hK=>?_;simp only [go_sem,seval,e33];apply hK;refine zaF ?_;obtain ⟨y77,hy77,h⟩:=bind_some h;refine zbu [] [] rfl (fun c E' m'=>∃v75 v76,zcr a2 c v75 v76=some y77/\E' 0=.ptr P0 0/\E' 9=.ptr (36::q) 0/\E' 60=.list .none (a2.map (cI .u64))/\E' 61=.lit (.int .i64 (a2.length:Int))/\E' 62=.lit (.int .i64 v75)/\m'.blk P0=some ((zat.C a0.p_)++[.lit (.int .i64 a0.zdw),.lit (.int .i64 a0.zcG),.lit (.int .i64 a0.e_),.list .self (a0.za3.map zax.C)])/\m'.blk (36::q)=some ([.lit (.int .i64 v76.Op_),.lit (.int .u32 v76.N_),.list .self (v76.zay.map zaJ.C)])/\m'.ver P0 4=zP0+a0.za3.length/\m'.gl=m.gl/\m.back q m'=(m.setv P0 4 ((zat.C a0.p_)++[.lit (.int .i64 a0.zdw),.lit (.int .i64 a0.zcG),.lit (.int .i64 a0.e_),.list .self (a0.za3.map zax.C)]) (zP0+a0.za3.length))) n ⟨(0:Int),(zaJ.mk x71 (0:Int) []),hy77,?_⟩ ?_
      ·simp only [go_sem,seval,zam,zaX,hmsP0,zdI hvrP0,pz2 hpP0,e33]
      rintro i74 c78 E79 m80 ⟨v75,v76,hy77,e81⟩ _
      rcases c78 with _ | c78
      ·exact absurd hy77 (by rw [zcr];exact fun e=>nomatch e)
      rw [zcr] at hy77;refine zan fun K hK=>?_;simp only [go_sem,e81];apply hK;refine zah ?_;refine zbB (decide (v75<(a2.length:Int))) (by simp only [go_sem,↓reduceIte]) (fun c82=>?_) (fun c82=>?_)
      ·replace hy77:=zaB c82 hy77;refine zaw ?_
       try simp only [zaa]
       refine zah ?_;refine zaF ?_;refine zah ?_;obtain ⟨x83,h87,hy77⟩:=bind_some hy77;obtain ⟨f84,f85,f86⟩:=zav h87;refine zap fun K hK=>?_;simp only [go_sem,seval,f84,f85,f86,e81];apply hK;obtain ⟨x88,h89,hy77⟩:=bind_some hy77;obtain ⟨f90,hy77⟩:=zaO hy77;have f91:v76.zay.length+1<=1073741824:=by first | omega | (simp only [List.length_append,List.length_cons,List.length_nil] at f90 ⊢;omega)
       have f92:v76.zay.length<=1073741823:=by first | omega | (simp only [List.length_append,List.length_cons,List.length_nil] at f90 ⊢;omega)
       refine zaN (tbl:=[0,1,0,4,12,28,63,127,255]) (ord:=[(2,0),(3,0),(4,0),(0,0),(1,1),(5,0),(6,0),(7,0),(8,0)]) 13 rfl (by kernel_rfl) (by kernel_rfl) fun K hK=>?_;simp only [go_sem,seval];refine zaQ (zjF (IntKind.u32.wrap x83) _ h89 _ _ _ (by simp only [go_sem])) rfl ?_;simp only [go_sem,seval,f91,e81];apply hK;simp only [zaa,zaq];refine zap fun K hK=>?_;simp only [go_sem,seval,e81];apply hK;refine ⟨c78,Nat.lt_succ_self _,(IntKind.i64.wrap (v75+(1:Int))),({ v76 with zay:=(v76.zay++[x88]) }:zaJ),hy77,?_⟩;simp only [go_sem,seval,zam,zaX,zaU,hmsP0,zdI hvrP0,pz2 hpP0,e81]
      ·replace hy77:=zaC c82 hy77;refine zbA ?_
       try simp only [zaR,zaI,↓reduceIte,zaa]
       obtain rfl:=zaf hy77;refine zah ?_;obtain ⟨x93,h94,h⟩:=bind_some h;refine zap fun K hK=>?_;simp only [go_sem,seval,c82,e81];refine SC.by_ (zgo n v76 [] _ h94 _ _ _ (by simp only [go_sem])) ?_;simp only [go_sem,seval];apply hK;refine zah ?_;refine zan fun K hK=>?_;simp only [go_sem,seval];apply hK;refine zbh (!x93.2) (fun c95=>?_) (fun c95=>?_)
       ·replace h:=zaB c95 h;refine zap fun K hK=>?_;simp only [go_sem,seval,c95,e81];apply hK;refine zan fun K hK=>?_;simp only [go_sem,seval];apply hK;refine zau ?_;obtain rfl:=zaf h;refine ⟨by simp,?_⟩;simp only [go_sem,↓reduceIte,zaz hpP0,hmsP0,zdI hvrP0,e81]
       ·replace h:=zaC c95 h;refine zaw ?_
        try simp only [zaa]
        refine zan fun K hK=>?_;simp only [go_sem,seval,c95];apply hK;refine zau ?_;obtain rfl:=zaf h;refine ⟨by simp,?_⟩;simp only [go_sem,↓reduceIte,hmsP0,zdI hvrP0,e81]
  ·replace h:=zaC c13 h;refine zaw ?_
   try simp only [zaa]
   refine zah ?_;refine zan fun K hK=>?_;simp only [go_sem,seval,c13,e12];apply hK;refine zbh y2 (fun c99=>?_) (fun c99=>?_)
   ·replace h:=zaB c99 h;refine zah ?_;obtain ⟨x100,h105,h⟩:=bind_some h;obtain ⟨f102,f103,f104⟩:=zav h105;have f106:a2[0]? = some x100:=f104;obtain ⟨x101,h107,h⟩:=bind_some h;refine zaN (tbl:=[0,1,0,4,12,0,63,127]) (ord:=[(0,0),(1,0),(2,0),(3,0),(4,0),(5,0),(6,0),(7,0)]) 28 rfl (by kernel_rfl) (by kernel_rfl) fun K hK=>?_;simp only [go_sem,seval,c99,f102,f103,f106,e12];refine zaQ (zj3 a1.Op_ x100 (0:Int) _ h107 _ _ _ (by simp only [go_sem])) rfl ?_;simp only [go_sem,↓reduceIte];apply hK;simp only [zaa];refine zau ?_
    try simp only [zas]
    obtain rfl:=zaf h;refine ⟨by simp,?_⟩;simp only [go_sem,↓reduceIte,hmsP0,zdI hvrP0,e12]
   ·replace h:=zaC c99 h;refine zaw ?_
    try simp only [zaa]
    refine zah ?_;refine zah ?_;obtain ⟨y108,hy108,h⟩:=bind_some h;refine zbd 28 [] [] rfl (fun E' m'=>E' 0=.ptr P0 0/\E' 2=.list .none (a2.map (cI .u64))/\E' 4=.ptr (0::q) 0/\E' 8=.lit (.int .u64 (0:Int))/\E' 47=.lit (.bool y108)/\m'.blk P0=some ((zat.C a0.p_)++[.lit (.int .i64 a0.zdw),.lit (.int .i64 a0.zcG),.lit (.int .i64 a0.e_),.list .self (a0.za3.map zax.C)])/\m'.blk (0::q)=some ((zag.C a1))/\m'.ver P0 4=zP0+a0.za3.length/\m'.gl=m.gl/\m.back q m'=(m.setv P0 4 ((zat.C a0.p_)++[.lit (.int .i64 a0.zdw),.lit (.int .i64 a0.zcG),.lit (.int .i64 a0.e_),.list .self (a0.za3.map zax.C)]) (zP0+a0.za3.length))) ?_ ?_
    ·rcases zbn (decide (a1.Op_=([47]:Str))) with c109 | c109
     ·replace hy108:=zaB c109 hy108;refine zap fun K hK=>?_;simp only [go_sem,seval,c99,c109,e12];apply hK;obtain rfl:=zaf hy108;refine ⟨by decide,?_⟩;simp only [go_sem,seval,hmsP0,zdI hvrP0,e12]
     ·replace hy108:=zaC c109 hy108;refine zap fun K hK=>?_;simp only [go_sem,seval,c99,c109,e12];apply hK;obtain rfl:=zaf hy108;refine ⟨by decide,?_⟩;simp only [go_sem,seval,hmsP0,zdI hvrP0,e12]
    ·intro E110 m111 e112 _;simp only [zaa];refine zbB y108 (by simp only [go_sem,e112]) (fun c113=>?_) (fun c113=>?_)
     ·replace h:=zaB c113 h;obtain ⟨x114,h119,h⟩:=bind_some h;obtain ⟨f116,f117,f118⟩:=zav h119;have f120:a2[0]? = some x114:=f118;obtain ⟨x115,h121,h⟩:=bind_some h;refine zap fun K hK=>?_;simp only [go_sem,seval,f116,f117,f120,e112];refine SC.by_ (zcw a0 (4:Int) (IntKind.u32.wrap x114) (IntKind.u32.wrap (0:Int)) _ h121 _ _ _ P0 zP0 (by simp only [go_sem,e112])) ?_;simp only [go_sem,Nat.reduceAdd];apply hK;refine zah ?_;obtain ⟨x122,h124,h⟩:=bind_some h;refine zap fun K hK=>?_;simp only [go_sem,seval,pz2 hpP0,e112];refine SC.by_ (zfq n a1.Op_ _ h124 _ _ _ (by simp only [go_sem,e112,hg0])) ?_;simp only [go_sem,seval];apply hK;refine zah ?_;refine zan fun K hK=>?_;simp only [go_sem,seval,e112];apply hK;refine zaF ?_;obtain ⟨y128,hy128,h⟩:=bind_some h;refine zbu [] [] rfl (fun c E' m'=>∃v126 v127,zcq a2 c v126 v127=some y128/\E' 0=.ptr P0 0/\E' 9=.ptr (40::q) 0/\E' 60=.list .none (a2.map (cI .u64))/\E' 61=.lit (.int .i64 (a2.length:Int))/\E' 62=.lit (.int .i64 v126)/\m'.blk P0=some ((zat.C x115.p_)++[.lit (.int .i64 x115.zdw),.lit (.int .i64 x115.zcG),.lit (.int .i64 x115.e_),.list .self (x115.za3.map zax.C)])/\m'.blk (40::q)=some ([.lit (.int .i64 v127.Op_),.lit (.int .u32 v127.N_),.list .self (v127.zay.map zaJ.C)])/\m'.ver P0 4=zP0+x115.za3.length/\m'.gl=m.gl/\m.back q m'=(m.setv P0 4 ((zat.C x115.p_)++[.lit (.int .i64 x115.zdw),.lit (.int .i64 x115.zcG),.lit (.int .i64 x115.e_),.list .self (x115.za3.map zax.C)]) (zP0+x115.za3.length))) n ⟨(0:Int),(zaJ.mk x122 (0:Int) []),hy128,?_⟩ ?_
      ·simp only [go_sem,seval,zam,zaX,hmsP0,zbK hpP0,zdI hvrP0,pz2 hpP0,e112]
      rintro i125 c129 E130 m131 ⟨v126,v127,hy128,e132⟩ _
      rcases c129 with _ | c129
      ·exact absurd hy128 (by rw [zcq];exact fun e=>nomatch e)
      rw [zcq] at hy128;refine zan fun K hK=>?_;simp only [go_sem,e132];apply hK;refine zah ?_;refine zbB (decide (v126<(a2.length:Int))) (by simp only [go_sem,↓reduceIte]) (fun c133=>?_) (fun c133=>?_)
      ·replace hy128:=zaB c133 hy128;refine zaw ?_
       try simp only [zaa]
       refine zah ?_;refine zaF ?_;refine zah ?_;obtain ⟨x134,h138,hy128⟩:=bind_some hy128;obtain ⟨f135,f136,f137⟩:=zav h138;refine zap fun K hK=>?_;simp only [go_sem,seval,f135,f136,f137,e132];apply hK;obtain ⟨x139,h140,hy128⟩:=bind_some hy128;obtain ⟨f141,hy128⟩:=zaO hy128;have f142:v127.zay.length+1<=1073741824:=by first | omega | (simp only [List.length_append,List.length_cons,List.length_nil] at f141 ⊢;omega)
       have f143:v127.zay.length<=1073741823:=by first | omega | (simp only [List.length_append,List.length_cons,List.length_nil] at f141 ⊢;omega)
       refine zaN (tbl:=[0,1,0,4,12,28,63,127,255]) (ord:=[(2,0),(3,0),(4,0),(0,0),(1,1),(5,0),(6,0),(7,0),(8,0)]) 13 rfl (by kernel_rfl) (by kernel_rfl) fun K hK=>?_;simp only [go_sem,seval];refine zaQ (zjF (IntKind.u32.wrap x134) _ h140 _ _ _ (by simp only [go_sem])) rfl ?_;simp only [go_sem,seval,f142,e132];apply hK;simp only [zaa,zaq];refine zap fun K hK=>?_;simp only [go_sem,seval,e132];apply hK;refine ⟨c129,Nat.lt_succ_self _,(IntKind.i64.wrap (v126+(1:Int))),({ v127 with zay:=(v127.zay++[x139]) }:zaJ),hy128,?_⟩;simp only [go_sem,seval,zam,zaX,zaU,pz2 hpP0,e132]
      ·replace hy128:=zaC c133 hy128;refine zbA ?_
       try simp only [zaR,zaI,↓reduceIte,zaa]
       obtain rfl:=zaf hy128;refine zah ?_;obtain ⟨x144,h145,h⟩:=bind_some h;refine zap fun K hK=>?_;simp only [go_sem,seval,c133,e132];refine SC.by_ (zgo n v127 [] _ h145 _ _ _ (by simp only [go_sem])) ?_;simp only [go_sem,seval];apply hK;refine zah ?_;refine zan fun K hK=>?_;simp only [go_sem,seval];apply hK;refine zbh (!x144.2) (fun c146=>?_) (fun c146=>?_)
       ·replace h:=zaB c146 h;refine zap fun K hK=>?_;simp only [go_sem,seval,c146,e132];apply hK;refine zan fun K hK=>?_;simp only [go_sem,seval];apply hK;refine zau ?_;obtain rfl:=zaf h;refine ⟨by simp,?_⟩;simp only [go_sem,↓reduceIte,zaz hpP0,e132]
       ·replace h:=zaC c146 h;refine zaw ?_
        try simp only [zaa]
        refine zan fun K hK=>?_;simp only [go_sem,seval,c146];apply hK;refine zau ?_;obtain rfl:=zaf h;refine ⟨by simp,?_⟩;simp only [go_sem,↓reduceIte,e132]
     ·replace h:=zaC c113 h;refine zaw ?_
      try simp only [zaa]
      refine zah ?_;obtain ⟨x150,h152,h⟩:=bind_some h;refine zap fun K hK=>?_;simp only [go_sem,seval,e112];refine SC.by_ (zfq n a1.Op_ _ h152 _ _ _ (by simp only [go_sem,e112,hg0])) ?_;simp only [go_sem,seval];apply hK;refine zah ?_;refine zan fun K hK=>?_;simp only [go_sem,seval,e112];apply hK;refine zaF ?_;obtain ⟨y156,hy156,h⟩:=bind_some h;refine zbu [] [] rfl (fun c E' m'=>∃v154 v155,zcp a2 c v154 v155=some y156/\E' 0=.ptr P0 0/\E' 9=.ptr (32::q) 0/\E' 60=.list .none (a2.map (cI .u64))/\E' 61=.lit (.int .i64 (a2.length:Int))/\E' 62=.lit (.int .i64 v154)/\m'.blk P0=some ((zat.C a0.p_)++[.lit (.int .i64 a0.zdw),.lit (.int .i64 a0.zcG),.lit (.int .i64 a0.e_),.list .self (a0.za3.map zax.C)])/\m'.blk (32::q)=some ([.lit (.int .i64 v155.Op_),.lit (.int .u32 v155.N_),.list .self (v155.zay.map zaJ.C)])/\m'.ver P0 4=zP0+a0.za3.length/\m'.gl=m.gl/\m.back q m'=(m.setv P0 4 ((zat.C a0.p_)++[.lit (.int .i64 a0.zdw),.lit (.int .i64 a0.zcG),.lit (.int .i64 a0.e_),.list .self (a0.za3.map zax.C)]) (zP0+a0.za3.length))) n ⟨(0:Int),(zaJ.mk x150 (0:Int) []),hy156,?_⟩ ?_
      ·simp only [go_sem,seval,zam,zaX,hmsP0,zdI hvrP0,pz2 hpP0,e112]
      rintro i153 c157 E158 m159 ⟨v154,v155,hy156,e160⟩ _
      rcases c157 with _ | c157
      ·exact absurd hy156 (by rw [zcp];exact fun e=>nomatch e)
      rw [zcp] at hy156;refine zan fun K hK=>?_;simp only [go_sem,e160];apply hK;refine zah ?_;refine zbB (decide (v154<(a2.length:Int))) (by simp only [go_sem,↓reduceIte]) (fun c161=>?_) (fun c161=>?_)
      ·replace hy156:=zaB c161 hy156;refine zaw ?_
       try simp only [zaa]
       refine zah ?_;refine zaF ?_;refine zah ?_;obtain ⟨x162,h166,hy156⟩:=bind_some hy156;obtain ⟨f163,f164,f165⟩:=zav h166;refine zap fun K hK=>?_;simp only [go_sem,seval,f163,f164,f165,e160];apply hK;obtain ⟨x167,h168,hy156⟩:=bind_some hy156;obtain ⟨f169,hy156⟩:=zaO hy156;have f170:v155.zay.length+1<=1073741824:=by first | omega | (simp only [List.length_append,List.length_cons,List.length_nil] at f169 ⊢;omega)
       have f171:v155.zay.length<=1073741823:=by first | omega | (simp only [List.length_append,List.length_cons,List.length_nil] at f169 ⊢;omega)
       refine zaN (tbl:=[0,1,0,4,12,28,63,127,255]) (ord:=[(2,0),(3,0),(4,0),(0,0),(1,1),(5,0),(6,0),(7,0),(8,0)]) 13 rfl (by kernel_rfl) (by kernel_rfl) fun K hK=>?_;simp only [go_sem,seval];refine zaQ (zjF (IntKind.u32.wrap x162) _ h168 _ _ _ (by simp only [go_sem])) rfl ?_;simp only [go_sem,seval,f170,e160];apply hK;simp only [zaa,zaq];refine zap fun K hK=>?_;simp only [go_sem,seval,e160];apply hK;refine ⟨c157,Nat.lt_succ_self _,(IntKind.i64.wrap (v154+(1:Int))),({ v155 with zay:=(v155.zay++[x167]) }:zaJ),hy156,?_⟩;simp only [go_sem,seval,zam,zaX,zaU,hmsP0,zdI hvrP0,pz2 hpP0,e160]
      ·replace hy156:=zaC c161 hy156;refine zbA ?_
       try simp only [zaR,zaI,↓reduceIte,zaa]
       obtain rfl:=zaf hy156;refine zah ?_;obtain ⟨x172,h173,h⟩:=bind_some h;refine zap fun K hK=>?_;simp only [go_sem,seval,c161,e160];refine SC.by_ (zgo n v155 [] _ h173 _ _ _ (by simp only [go_sem])) ?_;simp only [go_sem,seval];apply hK;refine zah ?_;refine zan fun K hK=>?_;simp only [go_sem,seval];apply hK;refine zbh (!x172.2) (fun c174=>?_) (fun c174=>?_)
       ·replace h:=zaB c174 h;refine zap fun K hK=>?_;simp only [go_sem,seval,c174,e160];apply hK;refine zan fun K hK=>?_;simp only [go_sem,seval];apply hK;refine zau ?_;obtain rfl:=zaf h;refine ⟨by simp,?_⟩;simp only [go_sem,↓reduceIte,zaz hpP0,hmsP0,zdI hvrP0,e160]
       ·replace h:=zaC c174 h;refine zaw ?_
        try simp only [zaa]
        refine zan fun K hK=>?_;simp only [go_sem,seval,c174];apply hK;refine zau ?_;obtain rfl:=zaf h;refine ⟨by simp,?_⟩;simp only [go_sem,↓reduceIte,hmsP0,zdI hvrP0,e160]
def zcW (f:zai->zal->(List (List Int))->zag->Option (Int × zai)):Prop:=∀a0 a1 a2 a3 r,f a0 a1 a2 a3=some r->∀(q:Pa) (m:M) (vs:List V) (P0:Pa) (P1:Pa) (zP0:Nat) (W A:Pa) (AS:List Pa) (LS:List Nat),vs.map V.weak1=[.ptr P0 0,.ptr P1 0,.agg ((zag.C a3))]/\m.blk P0=some ((zat.C a0.p_)++[.lit (.int .i64 a0.zdw),.lit (.int .i64 a0.zcG),.lit (.int .i64 a0.e_),.list .self (a0.za3.map zax.C)])/\m.blk P1=some (frC W A a1)/\m.ver P0 4=zP0+a0.za3.length/\HOk m.hp W A AS LS a1.za1 a1.zbk a2/\(P0=P1)=False/\(P1=P0)=False/\m.gl 0=.eptr [(cA zaK.C zbq)] 0 0->SC Tryz.prog 132 vs q m (fun v m'=>v=.lit (.int .u64 r.1)/\m'=(m.setv P0 4 ((zat.C r.2.p_)++[.lit (.int .i64 r.2.zdw),.lit (.int .i64 r.2.zcG),.lit (.int .i64 r.2.e_),.list .self (r.2.za3.map zax.C)]) (zP0+r.2.za3.length)))
def zdM (f:zai->zal->(List (List Int))->zag->Int->Option (Int × zai)):Prop:=∀a0 a1 a2 a3 a4 r,f a0 a1 a2 a3 a4=some r->∀(q:Pa) (m:M) (vs:List V) (P0:Pa) (P1:Pa) (zP0:Nat) (W A:Pa) (AS:List Pa) (LS:List Nat),vs.map V.weak1=[.ptr P0 0,.ptr P1 0,.agg ((zag.C a3)),.lit (.int .i64 a4)]/\m.blk P0=some ((zat.C a0.p_)++[.lit (.int .i64 a0.zdw),.lit (.int .i64 a0.zcG),.lit (.int .i64 a0.e_),.list .self (a0.za3.map zax.C)])/\m.blk P1=some (frC W A a1)/\m.ver P0 4=zP0+a0.za3.length/\HOk m.hp W A AS LS a1.za1 a1.zbk a2/\(P0=P1)=False/\(P1=P0)=False/\m.gl 0=.eptr [(cA zaK.C zbq)] 0 0->SC Tryz.prog 176 vs q m (fun v m'=>v=.lit (.int .u32 r.1)/\m'=(m.setv P0 4 ((zat.C r.2.p_)++[.lit (.int .i64 r.2.zdw),.lit (.int .i64 r.2.zcG),.lit (.int .i64 r.2.e_),.list .self (r.2.za3.map zax.C)]) (zP0+r.2.za3.length)))
theorem zhg {zdn:zai->zal->(List (List Int))->zag->Int->Option (Int × zai)} (zhq:zdM zdn) {zba:zai->zal->(List (List Int))->zag->Option (Int × zai)} (zd1:zcW zba) (n:Nat):zcW (zeE zdn zba n):=by
 rintro a0 a1 a2 a3 r h q m vs P0 P1 zP0 W A AS LS ⟨hv,hmP0,hmP1,hvrP0,hkF,hn0_1,hn1_0,hg0⟩;refine SC.weak ?_;rw [hv];refine SC.apart hmP0 fun hpP0=>?_;refine SC.apart hmP1 fun hpP1=>?_;have hmsP0:=zaY hmP0
 try simp only [go_sem] at hmP0 hmsP0
 try simp only [go_sem] at hmP1
 refine SC_w Tryz.func132 rfl (fun xs w=>Tryz.call132 xs w) Tryz.ntmps132 (by kernel_rfl) Tryz.results132 ?_;unfold zeE at h;refine zan fun K hK=>?_;simp only [go_sem,Nat.reduceAdd];apply hK;refine zah ?_;refine zan fun K hK=>?_;simp only [go_sem,seval];apply hK;refine zaF ?_;refine zan fun K hK=>?_;simp only [go_sem,seval];apply hK;refine zbB (decide (a3.Op_=([110,117,109]:Str))) (by simp only [go_sem,↓reduceIte]) (fun c2=>?_) (fun c2=>?_)
 ·replace h:=zaB c2 h;refine zan fun K hK=>?_;simp only [go_sem,seval,c2];apply hK;refine zau ?_
  try simp only [zas,zaA]
  obtain rfl:=zaf h;refine ⟨by simp,?_⟩;simp only [go_sem,↓reduceIte,zam,zak,hmsP0,zdI hvrP0]
 ·replace h:=zaC c2 h;refine zan fun K hK=>?_;simp only [go_sem,seval,c2];apply hK;refine zbB (decide (a3.Op_=([118,97,114]:Str))) (by simp only [go_sem,↓reduceIte]) (fun c3=>?_) (fun c3=>?_)
  ·replace h:=zaB c3 h;refine zah ?_;obtain ⟨x4,h8,h⟩:=bind_some h;obtain ⟨f5,f6,f7⟩:=zav h8;obtain ⟨w9,d10⟩:=zfF (f:=cU64) f7;refine zaN (tbl:=[0,1,3,7,0,16,63,127,255]) (ord:=[(0,0),(1,0),(2,0),(3,0),(4,0),(5,0),(6,0),(7,0),(8,0)]) 17 rfl (by kernel_rfl) (by kernel_rfl) fun K hK=>?_;simp only [go_sem,seval,pz2 hpP1,hkF.w,c3,f5,f6,d10,hmP1];apply hK;simp only [zaa];refine zau ?_
   try simp only [zas,zaA]
   obtain rfl:=zaf h;refine ⟨by simp,?_⟩;simp only [go_sem,↓reduceIte,zam,zak,hmsP0,zdI hvrP0]
  ·replace h:=zaC c3 h;refine zan fun K hK=>?_;simp only [go_sem,seval,c3];apply hK;refine zbB (decide (a3.Op_=([105,110,100,101,120]:Str))) (by simp only [go_sem,↓reduceIte]) (fun c11=>?_) (fun c11=>?_)
   ·replace h:=zaB c11 h;refine zah ?_;obtain ⟨x12,h17,h⟩:=bind_some h;obtain ⟨f14,f15,f16⟩:=zav h17;have f18:a3.zay[0]? = some x12:=f16;obtain ⟨x13,h19,h⟩:=bind_some h;refine zaN (tbl:=[0,0,0,4,12,28,0,64,255,511]) (ord:=[(0,0),(1,0),(2,0),(3,0),(4,0),(5,0),(6,0),(7,0),(8,0),(9,0)]) 20 rfl (by kernel_rfl) (by kernel_rfl) fun K hK=>?_;simp only [go_sem,seval,c11,f14,f15,f18];refine zaQ (zhq a0 a1 a2 x12 a3.Var_ _ h19 _ _ _ P0 P1 zP0 W A AS LS (by simp only [go_sem,↓reduceIte,pz2 hpP0,pz2 hpP1,hkF,hn0_1,hn1_0,hmP0,hvrP0,hmP1,hg0])) rfl ?_;simp only [go_sem,↓reduceIte];apply hK;simp only [zaa];refine zah ?_;refine zah ?_;obtain ⟨x20,h21,h⟩:=bind_some h;refine zap fun K hK=>?_;simp only [go_sem,seval];refine SC.by_ (za0 x13.2 _ h21 _ _ _ P0 zP0 (by simp only [go_sem,↓reduceIte])) ?_;simp only [go_sem,Nat.reduceAdd];apply hK;refine zbh x20 (fun c22=>?_) (fun c22=>?_)
    ·replace h:=zaB c22 h;refine zan fun K hK=>?_;simp only [go_sem,Nat.reduceAdd,c22];apply hK;refine zau ?_
     try simp only [zas,zaA]
     obtain rfl:=zaf h;refine ⟨by simp,?_⟩;simp only [go_sem,↓reduceIte,zam,zak,zbK hpP0]
    ·replace h:=zaC c22 h;refine zaw ?_
     try simp only [zaa]
     refine zah ?_;obtain ⟨x23,h30,h⟩:=bind_some h;obtain ⟨f27,f28,f29⟩:=zav h30;obtain ⟨w31,d32⟩:=zfF (f:=(cRef AS LS)) f29;obtain ⟨x24,h36,h⟩:=bind_some h;obtain ⟨f33,f34,f35⟩:=zav h36;have hx_a_25:=f35;obtain ⟨a_25,d37,d38,ex_a_25,nw_a_25,na_a_25⟩:=HOk.get hkF f33 f35;obtain ⟨x26,h42,h⟩:=bind_some h;obtain ⟨f39,f40,f41⟩:=zav h42;obtain ⟨w43,d44⟩:=zfF (f:=cU32) f41;refine zaN (tbl:=[0,1,3,7,0,16,63,127,0,511,1023,2047,4095]) (ord:=[(0,0),(1,0),(2,0),(3,0),(4,0),(5,0),(6,0),(7,0),(8,0),(9,0),(10,0),(11,0),(12,0)]) 35 rfl (by kernel_rfl) (by kernel_rfl) fun K hK=>?_;simp only [go_sem,seval,pz2 hpP0,pz2 hpP1,hkF.a,hn1_0,c22,f27,f28,d32,d37,d38,f39,f40,d44,hmP1];apply hK;simp only [zaa];refine zau ?_
     try simp only [zas,zaA]
     obtain rfl:=zaf h;refine ⟨by simp,?_⟩;simp only [go_sem,↓reduceIte,zam,zak,zbK hpP0]
   ·replace h:=zaC c11 h;refine zaw ?_
    try simp only [zaa,zaq]
    refine zan fun K hK=>?_;simp only [go_sem,Nat.reduceAdd,c11];apply hK;refine zah ?_;refine zan fun K hK=>?_;simp only [go_sem,seval];apply hK;refine zaF ?_;obtain ⟨y49,hy49,h⟩:=bind_some h;refine ziS 8 ([].map (cI .u64)) rfl (by simp only [go_sem,seval]) ?_;refine zbu [] [] rfl (fun c E' m'=>∃v46 v47 v48 o_v46 j_v46,zcJ zba a3 a1 a2 c v46 v47 v48=some y49/\E' 0=.ptr P0 0/\E' 1=.ptr P1 0/\E' 5=.ptr (0::q) 0/\E' 8=.list (.st (.anon o_v46 j_v46)) (v46.map (cI .u64))/\m'.tok o_v46 j_v46=true/\q <:+ o_v46/\E' 57=.list .none (a3.zay.map zag.C)/\E' 58=.lit (.int .i64 (a3.zay.length:Int))/\E' 59=.lit (.int .i64 v47)/\m'.blk P0=some ((zat.C v48.p_)++[.lit (.int .i64 v48.zdw),.lit (.int .i64 v48.zcG),.lit (.int .i64 v48.e_),.list .self (v48.za3.map zax.C)])/\m'.blk P1=some (frC W A a1)/\m'.blk (0::q)=some ((zag.C a3))/\m'.ver P0 4=zP0+v48.za3.length/\m'.gl=m.gl/\m'.hp=m.hp/\m.back q m'=(m.setv P0 4 ((zat.C v48.p_)++[.lit (.int .i64 v48.zdw),.lit (.int .i64 v48.zcG),.lit (.int .i64 v48.e_),.list .self (v48.za3.map zax.C)]) (zP0+v48.za3.length))) n ⟨[],(0:Int),a0,(15::q),0,hy49,?_⟩ ?_
    ·simp only [go_sem,seval,zam,zaU,zak,hmsP0,zdI hvrP0,hvrP0,pz2 hpP0,pz2 hpP1,hmP0,hmP1]
    rintro i45 c50 E51 m52 ⟨v46,v47,v48,o_v46,j_v46,hy49,e53⟩ _
    rcases c50 with _ | c50
    ·exact absurd hy49 (by rw [zcJ];exact fun e=>nomatch e)
    rw [zcJ] at hy49;refine zan fun K hK=>?_;simp only [go_sem,Nat.reduceAdd,e53];apply hK;refine zah ?_;refine zbB (decide (v47<(a3.zay.length:Int))) (by simp only [go_sem,↓reduceIte]) (fun c54=>?_) (fun c54=>?_)
    ·replace hy49:=zaB c54 hy49;refine zaw ?_
     try simp only [zaa]
     refine zah ?_;refine zaF ?_;refine zah ?_;obtain ⟨x55,h60,hy49⟩:=bind_some hy49;obtain ⟨f57,f58,f59⟩:=zav h60;refine zap fun K hK=>?_;simp only [go_sem,seval,f57,f58,f59,e53];apply hK;refine zah ?_;obtain ⟨x61,h62,hy49⟩:=bind_some hy49;refine zap fun K hK=>?_;simp only [go_sem,seval,e53];refine SC.by_ (zd1 v48 a1 a2 x55 _ h62 _ _ _ P0 P1 zP0 W A AS LS (by simp only [go_sem,↓reduceIte,pz2 hpP0,pz2 hpP1,hkF,hn0_1,hn1_0,e53,hg0])) ?_;simp only [go_sem,seval];apply hK;refine zah ?_;refine zah ?_;obtain ⟨x63,h64,hy49⟩:=bind_some hy49;refine zap fun K hK=>?_;simp only [go_sem,seval,e53];refine SC.by_ (za0 x61.2 _ h64 _ _ _ P0 zP0 (by simp only [go_sem,↓reduceIte])) ?_;simp only [go_sem,Nat.reduceAdd];apply hK;refine zbh x63 (fun c65=>?_) (fun c65=>?_)
     ·replace hy49:=zaB c65 hy49;refine zan fun K hK=>?_;simp only [go_sem,Nat.reduceAdd,c65];apply hK;refine zau ?_
      try simp only [zas,zaA]
      obtain rfl:=zaf hy49;simp only [Sum.elim_inr] at h;obtain rfl:=zaf h;refine ⟨by simp,?_⟩;simp only [go_sem,↓reduceIte,zam,zbK hpP0,e53]
     ·replace hy49:=zaC c65 hy49;refine zaw ?_
      try simp only [zaa]
      obtain ⟨f66,hy49⟩:=zaO hy49;have f67:v46.length+1<=1073741824:=by first | omega | (simp only [List.length_append,List.length_cons,List.length_nil] at f66 ⊢;omega)
      have f68:v46.length<=1073741823:=by first | omega | (simp only [List.length_append,List.length_cons,List.length_nil] at f66 ⊢;omega)
      refine zb8 fun K hK=>?_;simp only [go_sem,seval,c65,f67,e53];apply hK;simp only [zaa,zaq];refine zap fun K hK=>?_;simp only [go_sem,seval,e53];apply hK;refine ⟨c50,Nat.lt_succ_self _,(v46++[x61.1]),(IntKind.i64.wrap (v47+(1:Int))),x61.2,(15::i45::16::q),0,hy49,?_⟩;simp only [go_sem,seval,zam,zaU,zbK hpP0,pz2 hpP0,pz2 hpP1,hn1_0,e53]
    ·replace hy49:=zaC c54 hy49;refine zbA ?_
     try simp only [zaR,zaI,↓reduceIte,zaa]
     obtain rfl:=zaf hy49;simp only [Sum.elim_inl] at h;refine zah ?_;refine zah ?_;obtain ⟨x69,h70,h⟩:=bind_some h;refine zap fun K hK=>?_;simp only [go_sem,seval,c54,e53];refine SC.by_ (zlj a3.Op_ v46 _ h70 _ _ _ (by simp only [go_sem])) ?_;simp only [go_sem,seval];apply hK;refine zan fun K hK=>?_;simp only [go_sem,seval];apply hK;refine zbh x69.2 (fun c71=>?_) (fun c71=>?_)
     ·replace h:=zaB c71 h;refine zan fun K hK=>?_;simp only [go_sem,seval,c71];apply hK;refine zau ?_
      try simp only [zas]
      obtain rfl:=zaf h;refine ⟨by simp,?_⟩;simp only [go_sem,↓reduceIte,e53]
     ·replace h:=zaC c71 h;refine zaw ?_
      try simp only [zaa]
      refine zah ?_;obtain ⟨x72,h73,h⟩:=bind_some h;refine zap fun K hK=>?_;simp only [go_sem,seval,c71,e53];refine SC.by_ (zhh n v48 a3 v46 _ h73 _ _ _ P0 zP0 (by simp only [go_sem,e53,hg0])) ?_;simp only [go_sem,seval];apply hK;refine zau ?_;obtain rfl:=zaf h;refine ⟨by simp,?_⟩;simp only [go_sem,↓reduceIte,zbK hpP0,e53]
theorem zhi {zba:zai->zal->(List (List Int))->zag->Option (Int × zai)} (zd1:zcW zba) (n:Nat):zdM (zeG zba n):=by
 rintro a0 a1 a2 a3 a4 r h q m vs P0 P1 zP0 W A AS LS ⟨hv,hmP0,hmP1,hvrP0,hkF,hn0_1,hn1_0,hg0⟩;refine SC.weak ?_;rw [hv];refine SC.apart hmP0 fun hpP0=>?_;refine SC.apart hmP1 fun hpP1=>?_;have hmsP0:=zaY hmP0
 try simp only [go_sem] at hmP0 hmsP0
 try simp only [go_sem] at hmP1
 refine SC_w Tryz.func176 rfl (fun xs w=>Tryz.call176 xs w) Tryz.ntmps176 (by kernel_rfl) Tryz.results176 ?_;unfold zeG at h;refine zan fun K hK=>?_;simp only [go_sem,Nat.reduceAdd];apply hK;refine zah ?_;obtain ⟨x2,h3,h⟩:=bind_some h;refine zap fun K hK=>?_;simp only [go_sem,seval];refine SC.by_ (zd1 a0 a1 a2 a3 _ h3 _ _ _ P0 P1 zP0 W A AS LS (by simp only [go_sem,↓reduceIte,pz1 hpP0,pz1 hpP1,hkF,hn0_1,hn1_0,hmP0,hvrP0,hmP1,hg0])) ?_;simp only [go_sem,seval];apply hK;refine zah ?_;refine zah ?_;obtain ⟨x4,h5,h⟩:=bind_some h;refine zap fun K hK=>?_;simp only [go_sem,seval];refine SC.by_ (za0 x2.2 _ h5 _ _ _ P0 zP0 (by simp only [go_sem,↓reduceIte])) ?_;simp only [go_sem,Nat.reduceAdd];apply hK;refine zbh x4 (fun c6=>?_) (fun c6=>?_)
 ·replace h:=zaB c6 h;refine zan fun K hK=>?_;simp only [go_sem,Nat.reduceAdd,c6];apply hK;refine zau ?_
  try simp only [zas]
  obtain rfl:=zaf h;refine ⟨by simp,?_⟩;simp only [go_sem,↓reduceIte,zam,zak,zbK hpP0]
 ·replace h:=zaC c6 h;refine zaw ?_
  try simp only [zaa]
  refine zah ?_;obtain ⟨x7,h13,h⟩:=bind_some h;obtain ⟨f10,f11,f12⟩:=zav h13;obtain ⟨w14,d15⟩:=zfF (f:=(cRef AS LS)) f12;obtain ⟨x8,h19,h⟩:=bind_some h;obtain ⟨f16,f17,f18⟩:=zav h19;have hx_a_9:=f18;obtain ⟨a_9,d20,d21,ex_a_9,nw_a_9,na_a_9⟩:=HOk.get hkF f16 f18;refine zap fun K hK=>?_;simp only [go_sem,seval,pz1 hpP1,hkF.a,hn1_0,c6,f10,f11,d15,d20,hmP1];apply hK;refine zah ?_;obtain ⟨x22,h23,h⟩:=bind_some h;refine zap fun K hK=>?_;simp only [go_sem,seval];refine SC.by_ (zcw x2.2 (3:Int) (IntKind.u32.wrap x2.1) (IntKind.u32.wrap (x8.length:Int)) _ h23 _ _ _ P0 zP0 (by simp only [go_sem,↓reduceIte])) ?_;simp only [go_sem,Nat.reduceAdd];apply hK;refine zah ?_;refine zan fun K hK=>?_;simp only [go_sem,seval];apply hK;refine zbB (decide ((IntKind.u32.wrap (x8.length:Int))<=(IntKind.u32.wrap x2.1))) (by simp only [go_sem,↓reduceIte]) (fun c24=>?_) (fun c24=>?_)
  ·replace h:=zaB c24 h;refine zan fun K hK=>?_;simp only [go_sem,seval,c24];apply hK;refine zan fun K hK=>?_;simp only [go_sem,Nat.reduceAdd];apply hK;refine zau ?_
   try simp only [zas]
   obtain rfl:=zaf h;refine ⟨by simp,?_⟩;simp only [go_sem,↓reduceIte,zam,zak,zbK hpP0]
  ·replace h:=zaC c24 h;refine zaw ?_
   try simp only [zaa]
   refine zan fun K hK=>?_;simp only [go_sem,seval,c24];apply hK;refine zau ?_;obtain rfl:=zaf h;refine ⟨by simp,?_⟩;simp only [go_sem,↓reduceIte,zam,zak,zbK hpP0]
theorem zdL:∀n,zcW (zbF n)/\zdM (zfh n)
 | 0=>⟨fun _ _ _ _ _ h=>zbO h,fun _ _ _ _ _ _ h=>zbO h⟩
 | n+1=>
   have ih:=zdL n
   ⟨zhg ih.2 ih.1 n,zhi ih.1 n⟩
theorem zbH (n:Nat):zcW (zbF n):=(zdL n).1
theorem zh5 (n:Nat):zdM (zfh n):=(zdL n).2
def zjS (f:zal->(List (List Int))->Int->Int->Option (zal × (List (List Int)))):Prop:=∀a0 a1 a2 a3 r,f a0 a1 a2 a3=some r->∀(q:Pa) (m:M) (vs:List V) (P0:Pa) (W A:Pa) (AS:List Pa) (LS:List Nat),vs.map V.weak1=[.ptr P0 0,.lit (.int .i64 a2),.lit (.int .u64 a3)]/\m.blk P0=some (frC W A a0)/\HOk m.hp W A AS LS a0.za1 a0.zbk a1->SC Tryz.prog 133 vs q m (fun v m'=>v=.tup []/\m'=((m.set P0 (frC W A r.1)).seth (hpU m.hp W r.1.za1 AS r.2))/\zb9 a0 a1 r.1 r.2)
theorem zcL:zjS (zca):=by
 rintro a0 a1 a2 a3 r h q m vs P0 W A AS LS ⟨hv,hmP0,hkF⟩;refine SC.weak ?_;rw [hv];refine SC.apart hmP0 fun hpP0=>?_;have hmsP0:=zaY hmP0
 try simp only [go_sem] at hmP0 hmsP0
 refine SC_w Tryz.func133 rfl (fun xs w=>Tryz.call133 xs w) Tryz.ntmps133 (by kernel_rfl) Tryz.results133 ?_;unfold zca at h;refine zan fun K hK=>?_;simp only [go_sem,seval];apply hK;refine zbB (decide ((0:Int)<=a2)) (by simp only [go_sem,↓reduceIte]) (fun c1=>?_) (fun c1=>?_)
 ·replace h:=zaB c1 h;obtain ⟨x2,h9,h⟩:=bind_some h;obtain ⟨f6,f7,f8⟩:=zav h9;obtain ⟨w10,d11⟩:=zfF (f:=cU64) f8;have f3:a2.toNat+1<=a0.za1.length:=by omega
  have kp4:zb9 a0 a1 ({ a0 with za1:=(a0.za1.set a2.toNat a3) }:zal) a1:=zb9.setW zb9.refl;have hk5:HOk (hpU m.hp W ({ a0 with za1:=(a0.za1.set a2.toNat a3) }:zal).za1 AS a1) W A AS LS ({ a0 with za1:=(a0.za1.set a2.toNat a3) }:zal).za1 ({ a0 with za1:=(a0.za1.set a2.toNat a3) }:zal).zbk a1:=HOk.upk hkF kp4;refine zb8 fun K hK=>?_;simp only [go_sem,seval,zfL,hkF.w,f6,f7,f3,(HOk.setW hkF),hmP0];apply hK;simp only [];obtain rfl:=zaf h;refine ⟨by simp,?_⟩;simp only [go_sem,zak,zct,hmsP0,List.length_set,kp4]
 ·replace h:=zaC c1 h;refine zaw ?_;obtain rfl:=zaf h;refine ⟨by simp,?_⟩;simp only [go_sem,zak,hmsP0,HOk.same hkF,zor,c1]
def ziw (f:zai->zal->(List (List Int))->zae->Option (zai × zal × (List (List Int)))):Prop:=∀a0 a1 a2 a3 r,f a0 a1 a2 a3=some r->∀(q:Pa) (m:M) (vs:List V) (P0:Pa) (P1:Pa) (zP0:Nat) (W A:Pa) (AS:List Pa) (LS:List Nat),vs.map V.weak1=[.ptr P0 0,.ptr P1 0,.agg ((zae.C a3))]/\m.blk P0=some ((zat.C a0.p_)++[.lit (.int .i64 a0.zdw),.lit (.int .i64 a0.zcG),.lit (.int .i64 a0.e_),.list .self (a0.za3.map zax.C)])/\m.blk P1=some (frC W A a1)/\m.ver P0 4=zP0+a0.za3.length/\HOk m.hp W A AS LS a1.za1 a1.zbk a2/\(P0=P1)=False/\(P1=P0)=False/\m.gl 0=.eptr [(cA zaK.C zbq)] 0 0->SC Tryz.prog 134 vs q m (fun v m'=>v=.tup []/\m'=(m.fr P0 P1 ((zat.C r.1.p_)++[.lit (.int .i64 r.1.zdw),.lit (.int .i64 r.1.zcG),.lit (.int .i64 r.1.e_),.list .self (r.1.za3.map zax.C)]) (zP0+r.1.za3.length) (frC W A r.2.1) (hpU m.hp W r.2.1.za1 AS r.2.2))/\zb9 a1 a2 r.2.1 r.2.2)
theorem zh4 (n:Nat):ziw (zfg n):=by
 rintro a0 a1 a2 a3 r h q m vs P0 P1 zP0 W A AS LS ⟨hv,hmP0,hmP1,hvrP0,hkF,hn0_1,hn1_0,hg0⟩;refine SC.weak ?_;rw [hv];refine SC.apart hmP0 fun hpP0=>?_;refine SC.apart hmP1 fun hpP1=>?_;have hmsP0:=zaY hmP0;have hmsP1:=zaY hmP1
 try simp only [go_sem] at hmP0 hmsP0
 try simp only [go_sem] at hmP1 hmsP1
 have hfs:=zll hmP0 hvrP0 hmP1;refine SC_w Tryz.func134 rfl (fun xs w=>Tryz.call134 xs w) Tryz.ntmps134 (by kernel_rfl) Tryz.results134 ?_;unfold zfg at h;refine zan fun K hK=>?_;simp only [go_sem];apply hK;refine zah ?_;obtain ⟨x2,h7,h⟩:=bind_some h;obtain ⟨f4,f5,f6⟩:=zav h7;have f8:a3.zay[0]? = some x2:=f6;obtain ⟨x3,h9,h⟩:=bind_some h;refine zaN (tbl:=[0,0,0,4,12,28,0,64,255,511]) (ord:=[(0,0),(1,0),(2,0),(3,0),(4,0),(5,0),(6,0),(7,0),(8,0),(9,0)]) 11 rfl (by kernel_rfl) (by kernel_rfl) fun K hK=>?_;simp only [go_sem,seval,f4,f5,f8];refine zaQ (zh5 n a0 a1 a2 x2 a3.Var_ _ h9 _ _ _ P0 P1 zP0 W A AS LS (by simp only [go_sem,↓reduceIte,pz1 hpP0,pz1 hpP1,hkF,hn0_1,hn1_0,hmP0,hvrP0,hmP1,hg0])) rfl ?_;simp only [go_sem,↓reduceIte];apply hK;simp only [zaa];refine zah ?_;refine zah ?_;obtain ⟨x10,h11,h⟩:=bind_some h;refine zap fun K hK=>?_;simp only [go_sem,seval];refine SC.by_ (za0 x3.2 _ h11 _ _ _ P0 zP0 (by simp only [go_sem,↓reduceIte])) ?_;simp only [go_sem,Nat.reduceAdd];apply hK;refine zbh x10 (fun c12=>?_) (fun c12=>?_)
 ·replace h:=zaB c12 h;refine zau ?_
  try simp only [zas]
  obtain rfl:=zaf h;refine ⟨by simp,?_⟩;simp only [go_sem,zam,zak,zbK hpP0,zei hmP1,HOk.same hkF,c12]
 ·replace h:=zaC c12 h;refine zaw ?_
  try simp only [zaa]
  refine zah ?_;obtain ⟨x13,h18,h⟩:=bind_some h;obtain ⟨f15,f16,f17⟩:=zav h18;have f19:a3.zay[1]? = some x13:=f17;obtain ⟨x14,h20,h⟩:=bind_some h;refine zap fun K hK=>?_;simp only [go_sem,seval,Int.reduceToNat,pz1 hpP0,c12,f15,f16,f19];refine SC.by_ (zbH n x3.2 a1 a2 x13 _ h20 _ _ _ P0 P1 zP0 W A AS LS (by simp only [go_sem,↓reduceIte,pz1 hpP1,hkF,hn0_1,hn1_0,hmP1,hg0])) ?_;simp only [go_sem,seval];apply hK;refine zah ?_;obtain ⟨x21,h22,h⟩:=bind_some h;refine zap fun K hK=>?_;simp only [go_sem,seval];refine SC.by_ (za0 x14.2 _ h22 _ _ _ P0 zP0 (by simp only [go_sem,↓reduceIte])) ?_;simp only [go_sem,seval];apply hK;refine zbh (!x21) (fun c23=>?_) (fun c23=>?_)
  ·replace h:=zaB c23 h;obtain ⟨x24,h34,h⟩:=bind_some h;obtain ⟨f31,f32,f33⟩:=zav h34;obtain ⟨w35,d36⟩:=zfF (f:=(cRef AS LS)) f33;obtain ⟨x25,h40,h⟩:=bind_some h;obtain ⟨f37,f38,f39⟩:=zav h40;have hx_a_26:=f39;obtain ⟨a_26,d41,d42,ex_a_26,nw_a_26,na_a_26⟩:=HOk.get hkF f37 f39;obtain ⟨x27,h46,h⟩:=bind_some h;obtain ⟨f43,f44,f45⟩:=zav h46;obtain ⟨w47,d48⟩:=zfF (f:=cU32) f45;have f28:x3.1.toNat+1<=x25.length:=by omega
   have kp29:zb9 a1 a2 a1 (a2.set x24.toNat (x25.set x3.1.toNat (IntKind.u32.wrap x14.1))):=zb9.setA zb9.refl hx_a_26 List.length_set;have hk30:HOk (hpU m.hp W a1.za1 AS (a2.set x24.toNat (x25.set x3.1.toNat (IntKind.u32.wrap x14.1)))) W A AS LS a1.za1 a1.zbk (a2.set x24.toNat (x25.set x3.1.toNat (IntKind.u32.wrap x14.1))):=HOk.upk hkF kp29;refine zaN (tbl:=[0,1,3,7,0,16,63,127,0,0,512,2047,4095]) (ord:=[(0,0),(1,0),(2,0),(3,0),(4,0),(5,0),(6,0),(7,0),(8,0),(9,0),(10,0),(11,0),(12,0)]) 37 rfl (by kernel_rfl) (by kernel_rfl) fun K hK=>?_;simp only [go_sem,seval,zfL,pz1 hpP0,pz1 hpP1,hkF.a,hn1_0,c23,f31,f32,d36,d41,d42,f43,f44,f28,(HOk.setA hkF ex_a_26),hmP1];apply hK;simp only [];obtain rfl:=zaf h;refine ⟨by simp,?_⟩;simp only [go_sem,zam,zak,zct,zbK hpP0,zei hmP1,kp29]
  ·replace h:=zaC c23 h;refine zaw ?_;obtain rfl:=zaf h;refine ⟨by simp,?_⟩;simp only [go_sem,zam,zak,zbK hpP0,zei hmP1,HOk.same hkF,c23]
end Go.Proofs.YtldnmmnnohnpkaaGreatDoor.Abs
