/-
 Walks: each function does what its model says. Written by a program of mine (gen.py) for this claim.
-/
import Derived.Test.YtldnmmnnohnpkaaGreatDoorILFacts
import Derived.Test.YtldnmmnnohnpkaaGreatDoorILVs
import Derived.Test.YtldnmmnnohnpkaaGreatDoorILGMm
namespace Go.Proofs.YtldnmmnnohnpkaaGreatDoor.Abs
set_option linter.unusedVariables false
open Go.RowKit
set_option maxRecDepth 10000
def zcb (a:zal) (h:List (List Int)) (b:zal) (k:List (List Int)):Prop:=b.f_=a.f_/\b.zbm=a.zbm/\b.za2.length=a.za2.length/\k.map List.length=h.map List.length
@[go_sem] theorem zcb.refl {a:zal} {h:List (List Int)}:zcb a h a h:=⟨rfl,rfl,rfl,rfl⟩
theorem zcb.trans {a b c:zal} {h k l:List (List Int)} (x:zcb a h b k) (y:zcb b k c l):zcb a h c l:=⟨y.1.trans x.1,y.2.1.trans x.2.1,y.2.2.1.trans x.2.2.1,y.2.2.2.trans x.2.2.2⟩
theorem zcb.setW {a b:zal} {h k:List (List Int)} (x:zcb a h b k) {n:Nat} {v:Int}:zcb a h { b with za2:=b.za2.set n v } k:=⟨x.1,x.2.1,by rw [List.length_set];exact x.2.2.1,x.2.2.2⟩
theorem zcb.setA {a b:zal} {h k:List (List Int)} (x:zcb a h b k) {n:Nat} {l l':List Int} (hl:k[n]? = some l) (he:l'.length=l.length):zcb a h b (k.set n l'):=⟨x.1,x.2.1,x.2.2.1,(zm6 hl he).trans x.2.2.2⟩
theorem zcb.res {a b:zal} {h k:List (List Int)} (x:zcb a h b k) {v:Int}:zcb a h { b with zgF:=v } k:=x
theorem HOk.upk {h:Hp} {W A:Pa} {AS:List Pa} {LS:List Nat} {a b:zal} {hs hs':List (List Int)} (k:HOk h W A AS LS a.za2 a.zbm hs) (x:zcb a hs b hs'):HOk (hpU h W b.za2 AS hs') W A AS LS b.za2 b.zbm hs':=by rw [x.2.1];exact k.up x.2.2.2
def znf (f:Str->Option Int):Prop:=∀a0 r,f a0=some r->∀(q:Pa) (m:M) (vs:List V),vs.map V.weak1=[.lit (.string (bs a0))]/\m.gl 0=.eptr [(cA zaJ.C zbx)] 0 0->SC Tryz.prog 33 vs q m (fun v m'=>v=.lit (.int .i64 r)/\m'=m)
theorem zhy (n:Nat):znf (zha n):=by
 rintro a0 r h q m vs ⟨hv,hg0⟩;refine SC.weak ?_;rw [hv];refine SC_w Tryz.func33 rfl (fun xs w=>Tryz.call33 xs w) Tryz.ntmps33 (by kernel_rfl) Tryz.results33 ?_;unfold zha at h;refine zan fun K hK=>?_;simp only [go_sem];apply hK;refine zah ?_;refine zan fun K hK=>?_;simp only [go_sem,Nat.reduceAdd,hg0];apply hK;refine zaG ?_;obtain ⟨y3,hy3,h⟩:=bind_some h;refine zbu [] [] rfl (fun c E' m'=>∃v2,zgy a0 c v2=some y3/\E' 0=.lit (.string (bs a0))/\E' 5=.agg ((cA zaJ.C zbx))/\E' 6=.lit (.int .i64 v2)/\m'.gl=m.gl/\m.back q m'=m) n ⟨(0:Int),hy3,?_⟩ ?_
 ·simp only [go_sem,seval,zak]
 rintro i1 c4 E5 m6 ⟨v2,hy3,e7⟩ _
 rcases c4 with _ | c4
 ·exact absurd hy3 (by rw [zgy];exact fun e=>nomatch e)
 rw [zgy] at hy3;refine zan fun K hK=>?_;simp only [go_sem,e7];apply hK;refine zah ?_;refine zbF (decide (v2<(15:Int))) (by simp only [go_sem,↓reduceIte]) (fun c8=>?_) (fun c8=>?_)
 ·replace hy3:=zaA c8 hy3;refine zav ?_
  try simp only [zaa]
  refine zah ?_;refine zaG ?_;refine zah ?_;obtain ⟨x9,h14,hy3⟩:=bind_some hy3;obtain ⟨f11,f12,f13⟩:=zaw h14;have f15:v2<(15:Int):=f12;obtain ⟨w16,d17⟩:=zks (f:=zaJ.C) (s:=2) (fun _ _=>rfl) f13;simp only [go_sem] at d17;refine zao fun K hK=>?_;simp only [go_sem,seval,f11,f15,d17,e7];apply hK;refine zan fun K hK=>?_;simp only [go_sem,seval,e7];apply hK;refine zbn (decide (x9.zov=a0)) (fun c18=>?_) (fun c18=>?_)
  ·replace hy3:=zaA c18 hy3;refine zan fun K hK=>?_;simp only [go_sem,seval,c18];apply hK;refine zau ?_
   try simp only [zat,zaC]
   obtain rfl:=zag hy3;simp only [Sum.elim_inr] at h;obtain rfl:=zag h;refine ⟨by simp,?_⟩;simp only [go_sem,↓reduceIte,zam,e7]
  ·replace hy3:=zaB c18 hy3;refine zav ?_
   try simp only [zaa,zaq]
   refine zao fun K hK=>?_;simp only [go_sem,seval,c18,e7];apply hK;refine ⟨c4,Nat.lt_succ_self _,(IntKind.i64.wrap (v2+(1:Int))),hy3,?_⟩;simp only [go_sem,seval,zam,e7]
 ·replace hy3:=zaB c8 hy3;refine zbG ?_
  try simp only [zaS,zaK,↓reduceIte,zaa]
  obtain rfl:=zag hy3;simp only [Sum.elim_inl] at h;refine zan fun K hK=>?_;simp only [go_sem,Nat.reduceAdd,c8];apply hK;refine zau ?_;obtain rfl:=zag h;refine ⟨by simp,?_⟩;simp only [go_sem,↓reduceIte,e7]
def zl9 (f:zaI->zbi->Option Bool):Prop:=∀a0 a1 r,f a0 a1=some r->∀(q:Pa) (m:M) (vs:List V),vs.map V.weak1=[.agg ((zaI.C a0)),.agg ((zbi.C a1))]->SC Tryz.prog 34 vs q m (fun v m'=>v=.lit (.bool r)/\m'=m)
theorem zlx (n:Nat):zl9 (zhb n):=by
 intro a0 a1 r h q m vs hv;refine SC.weak ?_;rw [hv];refine SC_w Tryz.func34 rfl (fun xs w=>Tryz.call34 xs w) Tryz.ntmps34 (by kernel_rfl) Tryz.results34 ?_;unfold zhb at h;refine zan fun K hK=>?_;simp only [go_sem,seval];apply hK;refine zan fun K hK=>?_;simp only [go_sem,Nat.reduceAdd];apply hK;refine zah ?_;refine zah ?_;obtain ⟨⟨f3,f4⟩,h⟩:=zaM h;refine zao fun K hK=>?_;simp only [go_sem,seval,f3,f4];apply hK;refine zaG ?_;obtain ⟨y9,hy9,h⟩:=bind_some h;refine zbu [] [] rfl (fun c E' m'=>∃v6 v7 v8,zfE a0 a1 c v6 v7 v8=some y9/\E' 3=.ptr (1::q) 0/\E' 5=.lit (.int .i64 v6)/\E' 6=.lit (.int .i64 v7)/\E' 13=.list .none ((a0.zbg.take a0.zbd.toNat).map zaD.C)/\E' 14=.lit (.int .i64 ((a0.zbg.take a0.zbd.toNat).length:Int))/\E' 15=.lit (.int .i64 v8)/\m'.blk (1::q)=some ((zbi.C a1))/\m'.gl=m.gl/\m.back q m'=m) n ⟨(0:Int),(0:Int),(0:Int),hy9,?_⟩ ?_
 ·simp only [go_sem,seval,zam,zak]
 rintro i5 c10 E11 m12 ⟨v6,v7,v8,hy9,e13⟩ _
 rcases c10 with _ | c10
 ·exact absurd hy9 (by rw [zfE];exact fun e=>nomatch e)
 rw [zfE] at hy9;refine zan fun K hK=>?_;simp only [go_sem,e13];apply hK;refine zah ?_;refine zbF (decide (v8<((a0.zbg.take a0.zbd.toNat).length:Int))) (by simp only [go_sem,↓reduceIte]) (fun c14=>?_) (fun c14=>?_)
 ·replace hy9:=zaA c14 hy9;refine zav ?_
  try simp only [zaa]
  refine zah ?_;obtain ⟨y15,hy15,hy9⟩:=bind_some hy9;refine zbf 29 [] [] rfl (fun E' m'=>∃(y15a:(Int × Int)),y15=.inl y15a/\E' 3=.ptr (1::q) 0/\E' 5=.lit (.int .i64 y15a.1)/\E' 6=.lit (.int .i64 y15a.2)/\E' 13=.list .none ((a0.zbg.take a0.zbd.toNat).map zaD.C)/\E' 14=.lit (.int .i64 ((a0.zbg.take a0.zbd.toNat).length:Int))/\E' 15=.lit (.int .i64 v8)/\m'.blk (1::q)=some ((zbi.C a1))/\m'.gl=m.gl/\m.back q m'=m) ?_ ?_
  ·refine zaG ?_;refine zah ?_;obtain ⟨x16,h21,hy15⟩:=bind_some hy15;obtain ⟨f18,f19,f20⟩:=zaw h21;refine zao fun K hK=>?_;simp only [go_sem,seval,f18,f19,f20,e13];apply hK;refine zah ?_;refine zan fun K hK=>?_;simp only [go_sem,seval];apply hK;refine zbn (x16.zbA == (4:Int)) (fun c22=>?_) (fun c22=>?_)
   ·replace hy15:=zaA c22 hy15;refine zah ?_;refine zah ?_;obtain ⟨y23,hy23,hy15⟩:=bind_some hy15;refine zbf 24 [] [] rfl (fun E' m'=>E' 3=.ptr (1::q) 0/\E' 5=.lit (.int .i64 v6)/\E' 6=.lit (.int .i64 v7)/\E' 13=.list .none ((a0.zbg.take a0.zbd.toNat).map zaD.C)/\E' 14=.lit (.int .i64 ((a0.zbg.take a0.zbd.toNat).length:Int))/\E' 15=.lit (.int .i64 v8)/\E' 37=.lit (.bool y23)/\m'.blk (1::q)=some ((zbi.C a1))/\m'.gl=m.gl/\m.back q m'=m) ?_ ?_
    ·rcases za9 (decide ((a1.zhY.length:Int)<=v7)) with c24 | c24
     ·replace hy23:=zaA c24 hy23;refine zaO (tbl:=[0,0,2,6,15,31,63,127,63,511,1023,2047,63,4159,16383,32767]) (ord:=[(0,0),(1,0),(2,0),(3,0),(4,0),(5,0),(6,0),(7,0),(8,0),(9,0),(10,0),(11,0),(12,0),(13,0),(14,0),(15,0)]) 24 rfl (by kernel_rfl) (by kernel_rfl) fun K hK=>?_;simp only [go_sem,seval,c22,c24,e13];apply hK;simp only [zaa];obtain rfl:=zag hy23;refine ⟨by decide,?_⟩;simp only [go_sem,seval,zam,e13]
     ·replace hy23:=zaB c24 hy23;obtain ⟨x25,h29,hy23⟩:=bind_some hy23;obtain ⟨f26,f27,f28⟩:=zaw h29;refine zaO (tbl:=[0,0,2,6,15,31,63,127,63,511,1023,2047,63,4159,16383,32767]) (ord:=[(0,0),(1,0),(2,0),(3,0),(4,0),(5,0),(6,0),(7,0),(8,0),(9,0),(10,0),(11,0),(12,0),(13,0),(14,0),(15,0)]) 24 rfl (by kernel_rfl) (by kernel_rfl) fun K hK=>?_;simp only [go_sem,seval,c22,c24,f26,f27,f28,e13];apply hK;simp only [zaa];obtain rfl:=zag hy23;refine ⟨by decide,?_⟩;simp only [go_sem,seval,zam,e13]
    ·intro E30 m31 e32 _;simp only [zaa];refine zbF y23 (by simp only [go_sem,e32]) (fun c33=>?_) (fun c33=>?_)
     ·replace hy15:=zaA c33 hy15;refine zan fun K hK=>?_;simp only [go_sem,Nat.reduceAdd];apply hK;refine zau ?_
      try simp only [zat,zaC]
      obtain rfl:=zag hy15;simp only [Sum.elim_inr] at hy9;obtain rfl:=zag hy9;simp only [Sum.elim_inr] at h;obtain rfl:=zag h;refine ⟨by simp,?_⟩;simp only [go_sem,↓reduceIte,e32]
     ·replace hy15:=zaB c33 hy15;refine zav ?_
      try simp only [zaa]
      refine zan fun K hK=>?_;simp only [go_sem,seval,e32];apply hK;refine zbG ?_
      try simp only [zaS,zaK,↓reduceIte,zaa]
      obtain rfl:=zag hy15;refine ⟨by decide,(v6,(IntKind.i64.wrap (v7+(1:Int)))),rfl,?_⟩;simp only [go_sem,seval,e32]
   ·replace hy15:=zaB c22 hy15;refine zav ?_
    try simp only [zaa]
    refine zah ?_;refine zah ?_;obtain ⟨y34,hy34,hy15⟩:=bind_some hy15;refine zbf 26 [] [] rfl (fun E' m'=>E' 3=.ptr (1::q) 0/\E' 5=.lit (.int .i64 v6)/\E' 6=.lit (.int .i64 v7)/\E' 13=.list .none ((a0.zbg.take a0.zbd.toNat).map zaD.C)/\E' 14=.lit (.int .i64 ((a0.zbg.take a0.zbd.toNat).length:Int))/\E' 15=.lit (.int .i64 v8)/\E' 57=.lit (.bool y34)/\m'.blk (1::q)=some ((zbi.C a1))/\m'.gl=m.gl/\m.back q m'=m) ?_ ?_
    ·rcases za9 (decide ((a1.zk1.length:Int)<=v6)) with c35 | c35
     ·replace hy34:=zaA c35 hy34;refine zao fun K hK=>?_;simp only [go_sem,seval,c22,c35,e13];apply hK;obtain rfl:=zag hy34;refine ⟨by decide,?_⟩;simp only [go_sem,seval,zam,e13]
     ·replace hy34:=zaB c35 hy34
      rcases za9 (x16.zbA != (3:Int)) with c36 | c36
      ·replace hy34:=zaA c36 hy34;obtain ⟨x37,h41,hy34⟩:=bind_some hy34;obtain ⟨f38,f39,f40⟩:=zaw h41;refine zao fun K hK=>?_;simp only [go_sem,seval,c22,c35,c36,f38,f39,f40,e13];apply hK;obtain rfl:=zag hy34;refine ⟨by decide,?_⟩;simp only [go_sem,seval,zam,e13]
      ·replace hy34:=zaB c36 hy34;refine zao fun K hK=>?_;simp only [go_sem,seval,c22,c35,c36,e13];apply hK;obtain rfl:=zag hy34;refine ⟨by decide,?_⟩;simp only [go_sem,seval,zam,e13]
    ·intro E42 m43 e44 _;simp only [zaa];refine zbF y34 (by simp only [go_sem,e44]) (fun c45=>?_) (fun c45=>?_)
     ·replace hy15:=zaA c45 hy15;refine zan fun K hK=>?_;simp only [go_sem,Nat.reduceAdd];apply hK;refine zau ?_
      try simp only [zat,zaC]
      obtain rfl:=zag hy15;simp only [Sum.elim_inr] at hy9;obtain rfl:=zag hy9;simp only [Sum.elim_inr] at h;obtain rfl:=zag h;refine ⟨by simp,?_⟩;simp only [go_sem,↓reduceIte,e44]
     ·replace hy15:=zaB c45 hy15;refine zav ?_
      try simp only [zaa]
      refine zca fun K hK=>?_;simp only [go_sem,seval,e44];apply hK;simp only [zaa,zaq];obtain rfl:=zag hy15;refine ⟨by decide,((IntKind.i64.wrap (v6+(1:Int))),v7),rfl,?_⟩;simp only [go_sem,seval,e44]
  ·rintro E46 m47 ⟨y15a,rfl,e48⟩ _;simp only [Sum.elim_inl] at hy9;simp only [zaa];refine zao fun K hK=>?_;simp only [go_sem,seval,e48];apply hK;refine ⟨c10,Nat.lt_succ_self _,y15a.1,y15a.2,(IntKind.i64.wrap (v8+(1:Int))),hy9,?_⟩;simp only [go_sem,seval,e48]
 ·replace hy9:=zaB c14 hy9;refine zbG ?_
  try simp only [zaS,zaK,↓reduceIte,zaa]
  obtain rfl:=zag hy9;simp only [Sum.elim_inl] at h;refine zah ?_;obtain ⟨y49,hy49,h⟩:=bind_some h;refine zbf 26 [] [] rfl (fun E' m'=>E' 4=.lit (.bool y49)/\m'.gl=m.gl/\m.back q m'=m) ?_ ?_
  ·rcases za9 (v6 == (a1.zk1.length:Int)) with c50 | c50
   ·replace hy49:=zaA c50 hy49;refine zao fun K hK=>?_;simp only [go_sem,seval,c14,c50,e13];apply hK;obtain rfl:=zag hy49;refine ⟨by decide,?_⟩;simp only [go_sem,↓reduceIte,e13]
   ·replace hy49:=zaB c50 hy49;refine zao fun K hK=>?_;simp only [go_sem,seval,c14,c50,e13];apply hK;obtain rfl:=zag hy49;refine ⟨by decide,?_⟩;simp only [go_sem,↓reduceIte,e13]
  ·intro E51 m52 e53 _;simp only [zaa];refine zau ?_;obtain rfl:=zag h;refine ⟨by simp,?_⟩;simp only [go_sem,e53]
def ziA (f:zai->Option Bool):Prop:=∀a0 r,f a0=some r->∀(q:Pa) (m:M) (vs:List V) (P0:Pa) (zP0:Nat),vs.map V.weak1=[.ptr P0 0]/\m.blk P0=some ((zas.C a0.p_)++[.lit (.int .i64 a0.zdA),.lit (.int .i64 a0.zcI),.lit (.int .i64 a0.e_),.list .self (a0.za4.map zay.C)])/\m.ver P0 4=zP0+a0.za4.length->SC Tryz.prog 87 vs q m (fun v m'=>v=.lit (.bool r)/\m'=m)
theorem za1:ziA (zaV):=by
 rintro a0 r h q m vs P0 zP0 ⟨hv,hmP0,hvrP0⟩;refine SC.weak ?_;rw [hv];refine SC.apart hmP0 fun hpP0=>?_
 try simp only [go_sem] at hmP0
 refine SC_w Tryz.func87 rfl (fun xs w=>Tryz.call87 xs w) Tryz.ntmps87 (by kernel_rfl) Tryz.results87 ?_;unfold zaV at h;refine zan fun K hK=>?_;simp only [go_sem];apply hK;refine zah ?_;obtain ⟨y1,hy1,h⟩:=bind_some h;refine zbf 14 [] [] rfl (fun E' m'=>E' 2=.lit (.bool y1)/\m'.blk P0=some ((zas.C a0.p_)++[.lit (.int .i64 a0.zdA),.lit (.int .i64 a0.zcI),.lit (.int .i64 a0.e_),.list .self (a0.za4.map zay.C)])/\m'.ver P0 4=zP0+a0.za4.length/\m'.gl=m.gl/\m.back q m'=m) ?_ ?_
 ·rcases za9 (a0.zcI != (0:Int)) with c2 | c2
  ·replace hy1:=zaA c2 hy1;refine zao fun K hK=>?_;simp only [go_sem,seval,c2,hmP0];apply hK;obtain rfl:=zag hy1;refine ⟨by decide,?_⟩;simp only [go_sem,↓reduceIte,zak,hmP0,hvrP0]
  ·replace hy1:=zaB c2 hy1;refine zao fun K hK=>?_;simp only [go_sem,seval,c2,hmP0];apply hK;obtain rfl:=zag hy1;refine ⟨by decide,?_⟩;simp only [go_sem,↓reduceIte,zak,hmP0,hvrP0]
 ·intro E3 m4 e5 _;simp only [zaa];refine zau ?_;obtain rfl:=zag h;refine ⟨by simp,?_⟩;simp only [go_sem,e5]
def zi6 (f:zai->Option zai):Prop:=∀a0 r,f a0=some r->∀(q:Pa) (m:M) (vs:List V) (P0:Pa) (zP0:Nat),vs.map V.weak1=[.ptr P0 0]/\m.blk P0=some ((zas.C a0.p_)++[.lit (.int .i64 a0.zdA),.lit (.int .i64 a0.zcI),.lit (.int .i64 a0.e_),.list .self (a0.za4.map zay.C)])/\m.ver P0 4=zP0+a0.za4.length->SC Tryz.prog 88 vs q m (fun v m'=>v=.tup []/\m'=(m.setv P0 4 ((zas.C r.p_)++[.lit (.int .i64 r.zdA),.lit (.int .i64 r.zcI),.lit (.int .i64 r.e_),.list .self (r.za4.map zay.C)]) (zP0+r.za4.length)))
theorem zfW:zi6 (zdL):=by
 rintro a0 r h q m vs P0 zP0 ⟨hv,hmP0,hvrP0⟩;refine SC.weak ?_;rw [hv];refine SC.apart hmP0 fun hpP0=>?_;have hmsP0:=za0 hmP0
 try simp only [go_sem] at hmP0 hmsP0
 refine SC_w Tryz.func88 rfl (fun xs w=>Tryz.call88 xs w) Tryz.ntmps88 (by kernel_rfl) Tryz.results88 ?_;unfold zdL at h;refine zah ?_;refine zan fun K hK=>?_;simp only [go_sem,seval,hmP0];apply hK;refine zbF (decide (a0.zdA<=(0:Int))) (by simp only [go_sem,↓reduceIte]) (fun c1=>?_) (fun c1=>?_)
 ·replace h:=zaA c1 h;refine zan fun K hK=>?_;simp only [go_sem,seval,c1,hmP0];apply hK;refine zau ?_
  try simp only [zat]
  obtain rfl:=zag h;refine ⟨by simp,?_⟩;simp only [go_sem,zak,zaz hpP0,zdN hvrP0]
 ·replace h:=zaB c1 h;refine zav ?_
  try simp only [zaa]
  refine zca fun K hK=>?_;simp only [go_sem,seval,c1,hmP0];apply hK;simp only [];obtain rfl:=zag h;refine ⟨by simp,?_⟩;simp only [go_sem,zak,zaz hpP0,zdN hvrP0]
def zjx (f:zai->Int->Int->Int->Option zai):Prop:=∀a0 a1 a2 a3 r,f a0 a1 a2 a3=some r->∀(q:Pa) (m:M) (vs:List V) (P0:Pa) (zP0:Nat),vs.map V.weak1=[.ptr P0 0,.lit (.int .i64 a1),.lit (.int .u32 a2),.lit (.int .u32 a3)]/\m.blk P0=some ((zas.C a0.p_)++[.lit (.int .i64 a0.zdA),.lit (.int .i64 a0.zcI),.lit (.int .i64 a0.e_),.list .self (a0.za4.map zay.C)])/\m.ver P0 4=zP0+a0.za4.length->SC Tryz.prog 179 vs q m (fun v m'=>v=.tup []/\m'=(m.setv P0 4 ((zas.C r.p_)++[.lit (.int .i64 r.zdA),.lit (.int .i64 r.zcI),.lit (.int .i64 r.e_),.list .self (r.za4.map zay.C)]) (zP0+r.za4.length)))
theorem zcB:zjx (zcn):=by
 rintro a0 a1 a2 a3 r h q m vs P0 zP0 ⟨hv,hmP0,hvrP0⟩;refine SC.weak ?_;rw [hv];refine SC.apart hmP0 fun hpP0=>?_;have hmsP0:=za0 hmP0
 try simp only [go_sem] at hmP0 hmsP0
 refine SC_w Tryz.func179 rfl (fun xs w=>Tryz.call179 xs w) Tryz.ntmps179 (by kernel_rfl) Tryz.results179 ?_;unfold zcn at h;obtain ⟨f1,h⟩:=zaM h;have f2:a0.za4.length+1<=1073741824:=by first | omega | (simp only [List.length_append,List.length_cons,List.length_nil] at f1 ⊢;omega)
 have f3:a0.za4.length<=1073741823:=by first | omega | (simp only [List.length_append,List.length_cons,List.length_nil] at f1 ⊢;omega)
 refine zca fun K hK=>?_;simp only [go_sem,seval,f2,hmP0,hvrP0];apply hK;simp only [];obtain rfl:=zag h;refine ⟨by simp,?_⟩;simp only [go_sem,zaW,zak,zaz hpP0,zoe hpP0,set_bump hvrP0,List.length_append,List.length_cons,List.length_nil,Nat.zero_add,←Nat.add_assoc]
def zlw (f:Str->(List Int)->Option (Int × Bool)):Prop:=∀a0 a1 r,f a0 a1=some r->∀(q:Pa) (m:M) (vs:List V),vs.map V.weak1=[.lit (.string (bs a0)),.list .none (a1.map (cI .u64))]->SC Tryz.prog 177 vs q m (fun v m'=>v=.tup [.lit (.int .u64 r.1),.lit (.bool r.2)]/\m'=m)
theorem zll:zlw (zhx):=by
 intro a0 a1 r h q m vs hv;refine SC.weak ?_;rw [hv];refine SC_w Tryz.func177 rfl (fun xs w=>Tryz.call177 xs w) Tryz.ntmps177 (by kernel_rfl) Tryz.results177 ?_;unfold zhx at h;refine zan fun K hK=>?_;simp only [go_sem,Nat.reduceAdd];apply hK;refine zah ?_;refine zan fun K hK=>?_;simp only [go_sem,seval];apply hK;refine zaG ?_;refine zan fun K hK=>?_;simp only [go_sem,seval];apply hK;refine zbF (decide (a0=([115,101,108,101,99,116]:Str))) (by simp only [go_sem,↓reduceIte]) (fun c1=>?_) (fun c1=>?_)
 ·replace h:=zaA c1 h;refine zah ?_;refine zah ?_;obtain ⟨x2,h6,h⟩:=bind_some h;obtain ⟨f3,f4,f5⟩:=zaw h6;have f7:a1[0]? = some x2:=f5;refine zao fun K hK=>?_;simp only [go_sem,seval,c1,f3,f4,f7];apply hK;refine zbF ((andK .u64 x2 (1:Int)) == (1:Int)) (by simp only [go_sem,↓reduceIte]) (fun c8=>?_) (fun c8=>?_)
  ·replace h:=zaA c8 h;refine zah ?_;obtain ⟨x9,h13,h⟩:=bind_some h;obtain ⟨f10,f11,f12⟩:=zaw h13;have f14:a1[1]? = some x9:=f12;refine zao fun K hK=>?_;simp only [go_sem,seval,Int.reduceToNat,c8,f10,f11,f14];apply hK;refine zau ?_
   try simp only [zat,zaC]
   obtain rfl:=zag h;refine ⟨by simp,?_⟩;simp only [go_sem,seval,zak]
  ·replace h:=zaB c8 h;refine zav ?_
   try simp only [zaa]
   refine zah ?_;obtain ⟨x15,h19,h⟩:=bind_some h;obtain ⟨f16,f17,f18⟩:=zaw h19;have f20:a1[2]? = some x15:=f18;refine zao fun K hK=>?_;simp only [go_sem,seval,Int.reduceToNat,c8,f16,f17,f20];apply hK;refine zau ?_
   try simp only [zat,zaC]
   obtain rfl:=zag h;refine ⟨by simp,?_⟩;simp only [go_sem,seval,zak]
 ·replace h:=zaB c1 h;refine zan fun K hK=>?_;simp only [go_sem,seval,c1];apply hK;refine zbF (decide (a0=([108,111,110,103]:Str))) (by simp only [go_sem,↓reduceIte]) (fun c21=>?_) (fun c21=>?_)
  ·replace h:=zaA c21 h;refine zah ?_;obtain ⟨x22,h26,h⟩:=bind_some h;obtain ⟨f23,f24,f25⟩:=zaw h26;have f27:a1[0]? = some x22:=f25;refine zao fun K hK=>?_;simp only [go_sem,seval,c21,f23,f24,f27];apply hK;refine zau ?_
   try simp only [zat,zaC]
   obtain rfl:=zag h;refine ⟨by simp,?_⟩;simp only [go_sem,seval,zak]
  ·replace h:=zaB c21 h;refine zan fun K hK=>?_;simp only [go_sem,seval,c21];apply hK;refine zbF (decide (a0=([108,111]:Str))) (by simp only [go_sem,↓reduceIte]) (fun c28=>?_) (fun c28=>?_)
   ·replace h:=zaA c28 h;refine zah ?_;obtain ⟨x29,h33,h⟩:=bind_some h;obtain ⟨f30,f31,f32⟩:=zaw h33;have f34:a1[0]? = some x29:=f32;refine zao fun K hK=>?_;simp only [go_sem,seval,c28,f30,f31,f34];apply hK;refine zau ?_
    try simp only [zat,zaC]
    obtain rfl:=zag h;refine ⟨by simp,?_⟩;simp only [go_sem,seval,zak]
   ·replace h:=zaB c28 h;refine zan fun K hK=>?_;simp only [go_sem,seval,c28];apply hK;refine zbF (decide (a0=([104,105]:Str))) (by simp only [go_sem,↓reduceIte]) (fun c35=>?_) (fun c35=>?_)
    ·replace h:=zaA c35 h;refine zah ?_;obtain ⟨x36,h40,h⟩:=bind_some h;obtain ⟨f37,f38,f39⟩:=zaw h40;have f41:a1[0]? = some x36:=f39;refine zao fun K hK=>?_;simp only [go_sem,seval,c35,f37,f38,f41,(by decide:(0:Int)<=(32:Int))];apply hK;refine zau ?_
     try simp only [zat,zaC]
     obtain rfl:=zag h;refine ⟨by simp,?_⟩;simp only [go_sem,seval,zak]
    ·replace h:=zaB c35 h;refine zan fun K hK=>?_;simp only [go_sem,seval,c35];apply hK;refine zbF (decide (a0=([119,105,100,101]:Str))) (by simp only [go_sem,↓reduceIte]) (fun c42=>?_) (fun c42=>?_)
     ·replace h:=zaA c42 h;refine zah ?_;obtain ⟨x43,h48,h⟩:=bind_some h;obtain ⟨f45,f46,f47⟩:=zaw h48;have f49:a1[0]? = some x43:=f47;obtain ⟨x44,h53,h⟩:=bind_some h;obtain ⟨f50,f51,f52⟩:=zaw h53;have f54:a1[1]? = some x44:=f52;refine zaO (tbl:=[0,1,3,0,8,24,63,127,255]) (ord:=[(0,0),(1,0),(2,0),(3,0),(4,0),(5,0),(6,0),(7,0),(8,0)]) 22 rfl (by kernel_rfl) (by kernel_rfl) fun K hK=>?_;simp only [go_sem,seval,Int.reduceToNat,c42,f45,f46,f49,f50,f51,f54];apply hK;simp only [zaa];refine zau ?_
      try simp only [zat,zaC]
      obtain rfl:=zag h;refine ⟨by simp,?_⟩;simp only [go_sem,seval,zak]
     ·replace h:=zaB c42 h;refine zav ?_
      try simp only [zaa,zaq]
      refine zan fun K hK=>?_;simp only [go_sem,Nat.reduceAdd,c42];apply hK;refine zau ?_;obtain rfl:=zag h;refine ⟨by simp,?_⟩;simp only [go_sem,seval,zak]
def zil (f:Int->Int->Option Int):Prop:=∀a0 a1 r,f a0 a1=some r->∀(q:Pa) (m:M) (vs:List V),vs.map V.weak1=[.lit (.int .u64 a0),.lit (.int .i64 a1)]->SC Tryz.prog 225 vs q m (fun v m'=>v=.lit (.int .u64 r)/\m'=m)
theorem zhS:zil (zbO):=by
 intro a0 a1 r h q m vs hv;refine SC.weak ?_;rw [hv];refine SC_w Tryz.func225 rfl (fun xs w=>Tryz.call225 xs w) Tryz.ntmps225 (by kernel_rfl) Tryz.results225 ?_;unfold zbO at h;refine zan fun K hK=>?_;simp only [go_sem];apply hK;refine zan fun K hK=>?_;simp only [go_sem,seval];apply hK;refine zah ?_;obtain ⟨f1,h⟩:=zaM h;obtain ⟨f2,h⟩:=zaM h;refine zao fun K hK=>?_;simp only [go_sem,seval,f1,f2];apply hK;refine zau ?_;obtain rfl:=zag h;refine ⟨by simp,?_⟩;simp only [go_sem,↓reduceIte,zak]
def zlv (f:Bool->Option Int):Prop:=∀a0 r,f a0=some r->∀(q:Pa) (m:M) (vs:List V),vs.map V.weak1=[.lit (.bool a0)]->SC Tryz.prog 226 vs q m (fun v m'=>v=.lit (.int .u64 r)/\m'=m)
theorem zjB:zlv (zfo):=by
 intro a0 r h q m vs hv;refine SC.weak ?_;rw [hv];refine SC_w Tryz.func226 rfl (fun xs w=>Tryz.call226 xs w) Tryz.ntmps226 (by kernel_rfl) Tryz.results226 ?_;unfold zfo at h;refine zan fun K hK=>?_;simp only [go_sem];apply hK;refine zah ?_;refine zan fun K hK=>?_;simp only [go_sem,seval];apply hK;refine zbn a0 (fun c1=>?_) (fun c1=>?_)
 ·replace h:=zaA c1 h;refine zan fun K hK=>?_;simp only [go_sem,Nat.reduceAdd,c1];apply hK;refine zau ?_
  try simp only [zat]
  obtain rfl:=zag h;refine ⟨by simp,?_⟩;simp only [go_sem,↓reduceIte,zak]
 ·replace h:=zaB c1 h;refine zav ?_
  try simp only [zaa]
  refine zan fun K hK=>?_;simp only [go_sem,Nat.reduceAdd,c1];apply hK;refine zau ?_;obtain rfl:=zag h;refine ⟨by simp,?_⟩;simp only [go_sem,↓reduceIte,zak]
def zl8 (f:Str->Int->Int->Option Int):Prop:=∀a0 a1 a2 r,f a0 a1 a2=some r->∀(q:Pa) (m:M) (vs:List V),vs.map V.weak1=[.lit (.string (bs a0)),.lit (.int .u64 a1),.lit (.int .u64 a2)]->SC Tryz.prog 207 vs q m (fun v m'=>v=.lit (.int .u64 r)/\m'=m)
theorem zj6:zl8 (zeg):=by
 intro a0 a1 a2 r h q m vs hv;refine SC.weak ?_;rw [hv];refine SC_w Tryz.func207 rfl (fun xs w=>Tryz.call207 xs w) Tryz.ntmps207 (by kernel_rfl) Tryz.results207 ?_;unfold zeg at h;refine zan fun K hK=>?_;simp only [go_sem];apply hK;refine zah ?_;refine zan fun K hK=>?_;simp only [go_sem,seval];apply hK;refine zaG ?_;refine zan fun K hK=>?_;simp only [go_sem,seval];apply hK;refine zbF (decide (a0=([124]:Str))) (by simp only [go_sem,↓reduceIte]) (fun c1=>?_) (fun c1=>?_)
 ·replace h:=zaA c1 h;refine zan fun K hK=>?_;simp only [go_sem,seval,c1];apply hK;refine zau ?_
  try simp only [zat,zaC]
  obtain rfl:=zag h;refine ⟨by simp,?_⟩;simp only [go_sem,↓reduceIte,zak]
 ·replace h:=zaB c1 h;refine zan fun K hK=>?_;simp only [go_sem,seval,c1];apply hK;refine zbF (decide (a0=([94]:Str))) (by simp only [go_sem,↓reduceIte]) (fun c2=>?_) (fun c2=>?_)
  ·replace h:=zaA c2 h;refine zan fun K hK=>?_;simp only [go_sem,seval,c2];apply hK;refine zau ?_
   try simp only [zat,zaC]
   obtain rfl:=zag h;refine ⟨by simp,?_⟩;simp only [go_sem,↓reduceIte,zak]
  ·replace h:=zaB c2 h;refine zan fun K hK=>?_;simp only [go_sem,seval,c2];apply hK;refine zbF (decide (a0=([38]:Str))) (by simp only [go_sem,↓reduceIte]) (fun c3=>?_) (fun c3=>?_)
   ·replace h:=zaA c3 h;refine zan fun K hK=>?_;simp only [go_sem,seval,c3];apply hK;refine zau ?_
    try simp only [zat,zaC]
    obtain rfl:=zag h;refine ⟨by simp,?_⟩;simp only [go_sem,↓reduceIte,zak]
   ·replace h:=zaB c3 h;refine zan fun K hK=>?_;simp only [go_sem,seval,c3];apply hK;refine zbF (decide (a0=([43]:Str))) (by simp only [go_sem,↓reduceIte]) (fun c4=>?_) (fun c4=>?_)
    ·replace h:=zaA c4 h;refine zan fun K hK=>?_;simp only [go_sem,seval,c4];apply hK;refine zau ?_
     try simp only [zat,zaC]
     obtain rfl:=zag h;refine ⟨by simp,?_⟩;simp only [go_sem,↓reduceIte,zak]
    ·replace h:=zaB c4 h;refine zan fun K hK=>?_;simp only [go_sem,seval,c4];apply hK;refine zbF (decide (a0=([45]:Str))) (by simp only [go_sem,↓reduceIte]) (fun c5=>?_) (fun c5=>?_)
     ·replace h:=zaA c5 h;refine zan fun K hK=>?_;simp only [go_sem,seval,c5];apply hK;refine zau ?_
      try simp only [zat,zaC]
      obtain rfl:=zag h;refine ⟨by simp,?_⟩;simp only [go_sem,↓reduceIte,zak]
     ·replace h:=zaB c5 h;refine zan fun K hK=>?_;simp only [go_sem,seval,c5];apply hK;refine zbF (decide (a0=([60,60]:Str))) (by simp only [go_sem,↓reduceIte]) (fun c6=>?_) (fun c6=>?_)
      ·replace h:=zaA c6 h;refine zah ?_;obtain ⟨f7,h⟩:=zaM h;refine zao fun K hK=>?_;simp only [go_sem,seval,c6,f7];apply hK;refine zau ?_
       try simp only [zat,zaC]
       obtain rfl:=zag h;refine ⟨by simp,?_⟩;simp only [go_sem,↓reduceIte,zak]
      ·replace h:=zaB c6 h;refine zan fun K hK=>?_;simp only [go_sem,seval,c6];apply hK;refine zbF (decide (a0=([62,62]:Str))) (by simp only [go_sem,↓reduceIte]) (fun c8=>?_) (fun c8=>?_)
       ·replace h:=zaA c8 h;refine zah ?_;obtain ⟨f9,h⟩:=zaM h;refine zao fun K hK=>?_;simp only [go_sem,seval,c8,f9];apply hK;refine zau ?_
        try simp only [zat,zaC]
        obtain rfl:=zag h;refine ⟨by simp,?_⟩;simp only [go_sem,↓reduceIte,zak]
       ·replace h:=zaB c8 h;refine zan fun K hK=>?_;simp only [go_sem,seval,c8];apply hK;refine zbF (decide (a0=([60,60,60]:Str))) (by simp only [go_sem,↓reduceIte]) (fun c10=>?_) (fun c10=>?_)
        ·replace h:=zaA c10 h;refine zah ?_;obtain ⟨x11,h12,h⟩:=bind_some h;refine zao fun K hK=>?_;simp only [go_sem,seval,c10];refine SC.by_ (zhS a1 (IntKind.i64.wrap a2) _ h12 _ _ _ (by simp only [go_sem])) ?_;simp only [go_sem,seval];apply hK;refine zau ?_
         try simp only [zat,zaC]
         obtain rfl:=zag h;refine ⟨by simp,?_⟩;simp only [go_sem,↓reduceIte,zak]
        ·replace h:=zaB c10 h;refine zan fun K hK=>?_;simp only [go_sem,seval,c10];apply hK;refine zbF (decide (a0=([61,61]:Str))) (by simp only [go_sem,↓reduceIte]) (fun c13=>?_) (fun c13=>?_)
         ·replace h:=zaA c13 h;refine zah ?_;obtain ⟨x14,h15,h⟩:=bind_some h;refine zao fun K hK=>?_;simp only [go_sem,seval,c13];refine SC.by_ (zjB (a1 == a2) _ h15 _ _ _ (by simp only [go_sem])) ?_;simp only [go_sem,seval];apply hK;refine zau ?_
          try simp only [zat,zaC]
          obtain rfl:=zag h;refine ⟨by simp,?_⟩;simp only [go_sem,↓reduceIte,zak]
         ·replace h:=zaB c13 h;refine zan fun K hK=>?_;simp only [go_sem,seval,c13];apply hK;refine zbF (decide (a0=([60]:Str))) (by simp only [go_sem,↓reduceIte]) (fun c16=>?_) (fun c16=>?_)
          ·replace h:=zaA c16 h;refine zah ?_;obtain ⟨x17,h18,h⟩:=bind_some h;refine zao fun K hK=>?_;simp only [go_sem,seval,c16];refine SC.by_ (zjB (decide (a1<a2)) _ h18 _ _ _ (by simp only [go_sem])) ?_;simp only [go_sem,seval];apply hK;refine zau ?_
           try simp only [zat,zaC]
           obtain rfl:=zag h;refine ⟨by simp,?_⟩;simp only [go_sem,↓reduceIte,zak]
          ·replace h:=zaB c16 h;refine zan fun K hK=>?_;simp only [go_sem,seval,c16];apply hK;refine zbF (decide (a0=([110,111,116]:Str))) (by simp only [go_sem,↓reduceIte]) (fun c19=>?_) (fun c19=>?_)
           ·replace h:=zaA c19 h;refine zan fun K hK=>?_;simp only [go_sem,seval,c19];apply hK;refine zau ?_
            try simp only [zat,zaC]
            obtain rfl:=zag h;refine ⟨by simp,?_⟩;simp only [go_sem,↓reduceIte,zak]
           ·replace h:=zaB c19 h;refine zav ?_
            try simp only [zaa,zaq]
            refine zan fun K hK=>?_;simp only [go_sem,seval,c19];apply hK;refine zau ?_;obtain rfl:=zag h;refine ⟨by simp,?_⟩;simp only [go_sem,↓reduceIte,zak]
def zon (f:Int->Option zaF):Prop:=∀a0 r,f a0=some r->∀(q:Pa) (m:M) (vs:List V),vs.map V.weak1=[.lit (.int .u32 a0)]->SC Tryz.prog 208 vs q m (fun v m'=>v=.agg ((zaF.C r))/\m'=m)
theorem zjJ:zon (zkO):=by
 intro a0 r h q m vs hv;refine SC.weak ?_;rw [hv];refine SC_w Tryz.func208 rfl (fun xs w=>Tryz.call208 xs w) Tryz.ntmps208 (by kernel_rfl) Tryz.results208 ?_;unfold zkO at h;refine zan fun K hK=>?_;simp only [go_sem];apply hK;refine zan fun K hK=>?_;simp only [go_sem,seval];apply hK;refine zau ?_;obtain rfl:=zag h;refine ⟨by simp,?_⟩;simp only [go_sem,seval,zam,zaY,zak]
def zmV (f:zaF->(List Int)->Option Int):Prop:=∀a0 a1 r,f a0 a1=some r->∀(q:Pa) (m:M) (vs:List V),vs.map V.weak1=[.agg ((zaF.C a0)),.list .none (a1.map (cI .u32))]->SC Tryz.prog 227 vs q m (fun v m'=>v=.lit (.int .u32 r)/\m'=m)
theorem zmn:zmV (zk8):=by
 intro a0 a1 r h q m vs hv;refine SC.weak ?_;rw [hv];refine SC_w Tryz.func227 rfl (fun xs w=>Tryz.call227 xs w) Tryz.ntmps227 (by kernel_rfl) Tryz.results227 ?_;unfold zk8 at h;refine zan fun K hK=>?_;simp only [go_sem,Nat.reduceAdd];apply hK;refine zah ?_;refine zan fun K hK=>?_;simp only [go_sem,seval];apply hK;refine zbn (a0.Op_ == (1:Int)) (fun c2=>?_) (fun c2=>?_)
 ·replace h:=zaA c2 h;refine zan fun K hK=>?_;simp only [go_sem,seval,c2];apply hK;refine zau ?_
  try simp only [zat]
  obtain rfl:=zag h;refine ⟨by simp,?_⟩;simp only [go_sem,↓reduceIte,zam,zak]
 ·replace h:=zaB c2 h;refine zav ?_
  try simp only [zaa]
  refine zah ?_;refine zan fun K hK=>?_;simp only [go_sem,seval,c2];apply hK;refine zbF (decide ((IntKind.i64.wrap a0.N_)<(a1.length:Int))) (by simp only [go_sem,↓reduceIte]) (fun c3=>?_) (fun c3=>?_)
  ·replace h:=zaA c3 h;refine zah ?_;obtain ⟨x4,h8,h⟩:=bind_some h;obtain ⟨f5,f6,f7⟩:=zaw h8;refine zao fun K hK=>?_;simp only [go_sem,seval,c3,f5,f6,f7];apply hK;refine zau ?_
   try simp only [zat]
   obtain rfl:=zag h;refine ⟨by simp,?_⟩;simp only [go_sem,↓reduceIte,zam,zak]
  ·replace h:=zaB c3 h;refine zav ?_
   try simp only [zaa]
   refine zan fun K hK=>?_;simp only [go_sem,Nat.reduceAdd,c3];apply hK;refine zau ?_;obtain rfl:=zag h;refine ⟨by simp,?_⟩;simp only [go_sem,↓reduceIte,zam,zak]
def zml (f:Bool->Option Int):Prop:=∀a0 r,f a0=some r->∀(q:Pa) (m:M) (vs:List V),vs.map V.weak1=[.lit (.bool a0)]->SC Tryz.prog 228 vs q m (fun v m'=>v=.lit (.int .u32 r)/\m'=m)
theorem ziu:zml (zhZ):=by
 intro a0 r h q m vs hv;refine SC.weak ?_;rw [hv];refine SC_w Tryz.func228 rfl (fun xs w=>Tryz.call228 xs w) Tryz.ntmps228 (by kernel_rfl) Tryz.results228 ?_;unfold zhZ at h;refine zan fun K hK=>?_;simp only [go_sem];apply hK;refine zah ?_;refine zan fun K hK=>?_;simp only [go_sem,seval];apply hK;refine zbn a0 (fun c1=>?_) (fun c1=>?_)
 ·replace h:=zaA c1 h;refine zan fun K hK=>?_;simp only [go_sem,Nat.reduceAdd,c1];apply hK;refine zau ?_
  try simp only [zat]
  obtain rfl:=zag h;refine ⟨by simp,?_⟩;simp only [go_sem,↓reduceIte,zak]
 ·replace h:=zaB c1 h;refine zav ?_
  try simp only [zaa]
  refine zan fun K hK=>?_;simp only [go_sem,Nat.reduceAdd,c1];apply hK;refine zau ?_;obtain rfl:=zag h;refine ⟨by simp,?_⟩;simp only [go_sem,↓reduceIte,zak]
def znM (f:Int->Int->Option Int):Prop:=∀a0 a1 r,f a0 a1=some r->∀(q:Pa) (m:M) (vs:List V),vs.map V.weak1=[.lit (.int .i64 a0),.lit (.int .u32 a1)]->SC Tryz.prog 229 vs q m (fun v m'=>v=.lit (.int .u32 r)/\m'=m)
theorem zmU:znM (zlR):=by
 intro a0 a1 r h q m vs hv;refine SC.weak ?_;rw [hv];refine SC_w Tryz.func229 rfl (fun xs w=>Tryz.call229 xs w) Tryz.ntmps229 (by kernel_rfl) Tryz.results229 ?_;unfold zlR at h;refine zan fun K hK=>?_;simp only [go_sem];apply hK;refine zah ?_;refine zan fun K hK=>?_;simp only [go_sem,seval];apply hK;refine zbn (a0 == (3:Int)) (fun c1=>?_) (fun c1=>?_)
 ·replace h:=zaA c1 h;refine zan fun K hK=>?_;simp only [go_sem,seval,c1];apply hK;refine zau ?_
  try simp only [zat]
  obtain rfl:=zag h;refine ⟨by simp,?_⟩;simp only [go_sem,↓reduceIte,zak]
 ·replace h:=zaB c1 h;refine zav ?_
  try simp only [zaa]
  refine zan fun K hK=>?_;simp only [go_sem,seval,c1];apply hK;refine zau ?_;obtain rfl:=zag h;refine ⟨by simp,?_⟩;simp only [go_sem,↓reduceIte,zak]
def zim (f:Int->Int->Option Int):Prop:=∀a0 a1 r,f a0 a1=some r->∀(q:Pa) (m:M) (vs:List V),vs.map V.weak1=[.lit (.int .u32 a0),.lit (.int .i64 a1)]->SC Tryz.prog 243 vs q m (fun v m'=>v=.lit (.int .u32 r)/\m'=m)
theorem zhT:zim (ze5):=by
 intro a0 a1 r h q m vs hv;refine SC.weak ?_;rw [hv];refine SC_w Tryz.func243 rfl (fun xs w=>Tryz.call243 xs w) Tryz.ntmps243 (by kernel_rfl) Tryz.results243 ?_;unfold ze5 at h;refine zan fun K hK=>?_;simp only [go_sem];apply hK;refine zan fun K hK=>?_;simp only [go_sem,seval];apply hK;refine zah ?_;obtain ⟨f1,h⟩:=zaM h;obtain ⟨f2,h⟩:=zaM h;refine zao fun K hK=>?_;simp only [go_sem,seval,f1,f2];apply hK;refine zau ?_;obtain rfl:=zag h;refine ⟨by simp,?_⟩;simp only [go_sem,↓reduceIte,zak]
def zmm (f:Int->Int->Int->Option Int):Prop:=∀a0 a1 a2 r,f a0 a1 a2=some r->∀(q:Pa) (m:M) (vs:List V),vs.map V.weak1=[.lit (.int .i64 a0),.lit (.int .u32 a1),.lit (.int .u32 a2)]->SC Tryz.prog 241 vs q m (fun v m'=>v=.lit (.int .u32 r)/\m'=m)
theorem zlS:zmm (zkN):=by
 intro a0 a1 a2 r h q m vs hv;refine SC.weak ?_;rw [hv];refine SC_w Tryz.func241 rfl (fun xs w=>Tryz.call241 xs w) Tryz.ntmps241 (by kernel_rfl) Tryz.results241 ?_;unfold zkN at h;refine zan fun K hK=>?_;simp only [go_sem];apply hK;refine zah ?_;refine zan fun K hK=>?_;simp only [go_sem,seval];apply hK;refine zaG ?_;refine zan fun K hK=>?_;simp only [go_sem,seval];apply hK;refine zbn (a0 == (5:Int)) (fun c1=>?_) (fun c1=>?_)
 ·replace h:=zaA c1 h;refine zan fun K hK=>?_;simp only [go_sem,seval,c1];apply hK;refine zau ?_
  try simp only [zat,zaC]
  obtain rfl:=zag h;refine ⟨by simp,?_⟩;simp only [go_sem,↓reduceIte,zak]
 ·replace h:=zaB c1 h;refine zan fun K hK=>?_;simp only [go_sem,seval,c1];apply hK;refine zbn (a0 == (6:Int)) (fun c2=>?_) (fun c2=>?_)
  ·replace h:=zaA c2 h;refine zan fun K hK=>?_;simp only [go_sem,seval,c2];apply hK;refine zau ?_
   try simp only [zat,zaC]
   obtain rfl:=zag h;refine ⟨by simp,?_⟩;simp only [go_sem,↓reduceIte,zak]
  ·replace h:=zaB c2 h;refine zan fun K hK=>?_;simp only [go_sem,seval,c2];apply hK;refine zbn (a0 == (7:Int)) (fun c3=>?_) (fun c3=>?_)
   ·replace h:=zaA c3 h;refine zan fun K hK=>?_;simp only [go_sem,seval,c3];apply hK;refine zau ?_
    try simp only [zat,zaC]
    obtain rfl:=zag h;refine ⟨by simp,?_⟩;simp only [go_sem,↓reduceIte,zak]
   ·replace h:=zaB c3 h;refine zan fun K hK=>?_;simp only [go_sem,seval,c3];apply hK;refine zbn (a0 == (10:Int)) (fun c4=>?_) (fun c4=>?_)
    ·replace h:=zaA c4 h;refine zah ?_;obtain ⟨f5,h⟩:=zaM h;refine zao fun K hK=>?_;simp only [go_sem,seval,c4,f5];apply hK;refine zau ?_
     try simp only [zat,zaC]
     obtain rfl:=zag h;refine ⟨by simp,?_⟩;simp only [go_sem,↓reduceIte,zak]
    ·replace h:=zaB c4 h;refine zan fun K hK=>?_;simp only [go_sem,seval,c4];apply hK;refine zbn (a0 == (11:Int)) (fun c6=>?_) (fun c6=>?_)
     ·replace h:=zaA c6 h;refine zah ?_;obtain ⟨f7,h⟩:=zaM h;refine zao fun K hK=>?_;simp only [go_sem,seval,c6,f7];apply hK;refine zau ?_
      try simp only [zat,zaC]
      obtain rfl:=zag h;refine ⟨by simp,?_⟩;simp only [go_sem,↓reduceIte,zak]
     ·replace h:=zaB c6 h;refine zav ?_
      try simp only [zaa,zaq]
      refine zah ?_;obtain ⟨x8,h9,h⟩:=bind_some h;refine zao fun K hK=>?_;simp only [go_sem,seval,c6];refine SC.by_ (zhT a1 (IntKind.i64.wrap (andK .u32 a2 (31:Int))) _ h9 _ _ _ (by simp only [go_sem])) ?_;simp only [go_sem,seval];apply hK;refine zau ?_;obtain rfl:=zag h;refine ⟨by simp,?_⟩;simp only [go_sem,↓reduceIte,zak]
def znL (f:Int->Int->Int->Option (Int × Bool)):Prop:=∀a0 a1 a2 r,f a0 a1 a2=some r->∀(q:Pa) (m:M) (vs:List V),vs.map V.weak1=[.lit (.int .i64 a0),.lit (.int .u32 a1),.lit (.int .u32 a2)]->SC Tryz.prog 230 vs q m (fun v m'=>v=.tup [.lit (.int .u32 r.1),.lit (.bool r.2)]/\m'=m)
theorem zmT:znL (zlQ):=by
 intro a0 a1 a2 r h q m vs hv;refine SC.weak ?_;rw [hv];refine SC_w Tryz.func230 rfl (fun xs w=>Tryz.call230 xs w) Tryz.ntmps230 (by kernel_rfl) Tryz.results230 ?_;unfold zlQ at h;refine zan fun K hK=>?_;simp only [go_sem,Nat.reduceAdd];apply hK;refine zah ?_;refine zan fun K hK=>?_;simp only [go_sem,seval];apply hK;refine zaG ?_;refine zan fun K hK=>?_;simp only [go_sem,seval];apply hK;refine zbn (a0 == (8:Int)) (fun c1=>?_) (fun c1=>?_)
 ·replace h:=zaA c1 h;refine zah ?_;obtain ⟨x2,h3,h⟩:=bind_some h;refine zao fun K hK=>?_;simp only [go_sem,seval,c1];refine SC.by_ (ziu (a1 == a2) _ h3 _ _ _ (by simp only [go_sem])) ?_;simp only [go_sem,seval];apply hK;refine zau ?_
  try simp only [zat,zaC]
  obtain rfl:=zag h;refine ⟨by simp,?_⟩;simp only [go_sem,seval,zak]
 ·replace h:=zaB c1 h;refine zan fun K hK=>?_;simp only [go_sem,seval,c1];apply hK;refine zbn (a0 == (9:Int)) (fun c4=>?_) (fun c4=>?_)
  ·replace h:=zaA c4 h;refine zah ?_;obtain ⟨x5,h6,h⟩:=bind_some h;refine zao fun K hK=>?_;simp only [go_sem,seval,c4];refine SC.by_ (ziu (decide (a1<a2)) _ h6 _ _ _ (by simp only [go_sem])) ?_;simp only [go_sem,seval];apply hK;refine zau ?_
   try simp only [zat,zaC]
   obtain rfl:=zag h;refine ⟨by simp,?_⟩;simp only [go_sem,seval,zak]
  ·replace h:=zaB c4 h;refine zan fun K hK=>?_;simp only [go_sem,seval,c4];apply hK;refine zbn (a0 == (13:Int)) (fun c7=>?_) (fun c7=>?_)
   ·replace h:=zaA c7 h;refine zan fun K hK=>?_;simp only [go_sem,seval,c7];apply hK;refine zau ?_
    try simp only [zat,zaC]
    obtain rfl:=zag h;refine ⟨by simp,?_⟩;simp only [go_sem,seval,zak]
   ·replace h:=zaB c7 h;refine zan fun K hK=>?_;simp only [go_sem,seval,c7];apply hK;refine zbn (a0 == (14:Int)) (fun c8=>?_) (fun c8=>?_)
    ·replace h:=zaA c8 h;refine zan fun K hK=>?_;simp only [go_sem,seval,c8];apply hK;refine zau ?_
     try simp only [zat,zaC]
     obtain rfl:=zag h;refine ⟨by simp,?_⟩;simp only [go_sem,seval,zak]
    ·replace h:=zaB c8 h;refine zan fun K hK=>?_;simp only [go_sem,seval,c8];apply hK;refine zbn (a0 == (15:Int)) (fun c9=>?_) (fun c9=>?_)
     ·replace h:=zaA c9 h;refine zan fun K hK=>?_;simp only [go_sem,seval,c9];apply hK;refine zau ?_
      try simp only [zat,zaC]
      obtain rfl:=zag h;refine ⟨by simp,?_⟩;simp only [go_sem,seval,zak]
     ·replace h:=zaB c9 h;refine zah ?_;refine zan fun K hK=>?_;simp only [go_sem,seval,c9];apply hK;refine zbn (a0 == (16:Int)) (fun c10=>?_) (fun c10=>?_)
      ·replace h:=zaA c10 h;refine zav ?_
       try simp only [zaa]
       refine zcH true (by simp only [go_sem,↓reduceIte,c10]) ?_;simp only [↓reduceIte];refine zah ?_;refine zan fun K hK=>?_;simp only [go_sem,seval,c10];apply hK;refine zbn (a2 == (0:Int)) (fun c11=>?_) (fun c11=>?_)
       ·replace h:=zaA c11 h;refine zan fun K hK=>?_;simp only [go_sem,Nat.reduceAdd,c11];apply hK;refine zau ?_
        try simp only [zat,zaC]
        obtain rfl:=zag h;refine ⟨by simp,?_⟩;simp only [go_sem,seval,zak]
       ·replace h:=zaB c11 h;refine zav ?_
        try simp only [zaa]
        refine zah ?_;refine zan fun K hK=>?_;simp only [go_sem,seval,c10,c11];apply hK;refine zcH true (by simp only [go_sem,↓reduceIte]) ?_;simp only [↓reduceIte];refine zah ?_;obtain ⟨f12,h⟩:=zaM h;refine zao fun K hK=>?_;simp only [go_sem,seval,f12];apply hK;refine zau ?_
        try simp only [zat,zaC]
        obtain rfl:=zag h;refine ⟨by simp,?_⟩;simp only [go_sem,seval,zak]
      ·replace h:=zaB c10 h;refine zao fun K hK=>?_;simp only [go_sem,seval,c10];apply hK;refine zbn (a0 == (17:Int)) (fun c13=>?_) (fun c13=>?_)
       ·replace h:=zaA c13 h;refine zah ?_;refine zan fun K hK=>?_;simp only [go_sem,seval,c13];apply hK;refine zbn (a2 == (0:Int)) (fun c14=>?_) (fun c14=>?_)
        ·replace h:=zaA c14 h;refine zan fun K hK=>?_;simp only [go_sem,Nat.reduceAdd,c14];apply hK;refine zau ?_
         try simp only [zat,zaC]
         obtain rfl:=zag h;refine ⟨by simp,?_⟩;simp only [go_sem,seval,zak]
        ·replace h:=zaB c14 h;refine zav ?_
         try simp only [zaa]
         refine zah ?_;refine zan fun K hK=>?_;simp only [go_sem,seval,c10,c14];apply hK;refine zcH false (by simp only [go_sem,↓reduceIte]) ?_;simp only [↓reduceIte,Bool.false_eq_true];refine zav ?_
         try simp only [zaa]
         refine zah ?_;obtain ⟨f15,h⟩:=zaM h;refine zao fun K hK=>?_;simp only [go_sem,seval,f15];apply hK;refine zau ?_
         try simp only [zat,zaC]
         obtain rfl:=zag h;refine ⟨by simp,?_⟩;simp only [go_sem,seval,zak]
       ·replace h:=zaB c13 h;refine zav ?_
        try simp only [zaa,zaq]
        refine zah ?_;obtain ⟨x16,h17,h⟩:=bind_some h;refine zao fun K hK=>?_;simp only [go_sem,seval,c13];refine SC.by_ (zlS a0 a1 a2 _ h17 _ _ _ (by simp only [go_sem])) ?_;simp only [go_sem,seval];apply hK;refine zau ?_;obtain rfl:=zag h;refine ⟨by simp,?_⟩;simp only [go_sem,seval,zak]
def zkd (f:zaF->(List Int)->Option (Int × Bool)):Prop:=∀a0 a1 r,f a0 a1=some r->∀(q:Pa) (m:M) (vs:List V),vs.map V.weak1=[.agg ((zaF.C a0)),.list .none (a1.map (cI .u32))]->SC Tryz.prog 209 vs q m (fun v m'=>v=.tup [.lit (.int .u32 r.1),.lit (.bool r.2)]/\m'=m)
theorem zls {zfT:zaF->(List Int)->Option (Int × Bool)} (zj7:zkd zfT) (n:Nat):zkd (zkc zfT n):=by
 intro a0 a1 r h q m vs hv;refine SC.weak ?_;rw [hv];refine SC_w Tryz.func209 rfl (fun xs w=>Tryz.call209 xs w) Tryz.ntmps209 (by kernel_rfl) Tryz.results209 ?_;unfold zkc at h;refine zan fun K hK=>?_;simp only [go_sem,Nat.reduceAdd];apply hK;refine zah ?_;refine zan fun K hK=>?_;simp only [go_sem,seval];apply hK;refine zbn ((a0.zax.length:Int) == (0:Int)) (fun c2=>?_) (fun c2=>?_)
 ·replace h:=zaA c2 h;refine zah ?_;obtain ⟨x3,h4,h⟩:=bind_some h;refine zao fun K hK=>?_;simp only [go_sem,seval,c2];refine SC.by_ (zmn a0 a1 _ h4 _ _ _ (by simp only [go_sem])) ?_;simp only [go_sem,seval];apply hK;refine zau ?_
  try simp only [zat]
  obtain rfl:=zag h;refine ⟨by simp,?_⟩;simp only [go_sem,seval,zam,zak]
 ·replace h:=zaB c2 h;refine zav ?_
  try simp only [zaa]
  refine zah ?_;obtain ⟨x5,h10,h⟩:=bind_some h;obtain ⟨f7,f8,f9⟩:=zaw h10;have f11:a0.zax[0]? = some x5:=f9;obtain ⟨x6,h12,h⟩:=bind_some h;refine zao fun K hK=>?_;simp only [go_sem,seval,c2,f7,f8,f11];refine SC.by_ (zj7 x5 a1 _ h12 _ _ _ (by simp only [go_sem])) ?_;simp only [go_sem,seval];apply hK;refine zah ?_;refine zah ?_;obtain ⟨y13,hy13,h⟩:=bind_some h;refine zbf 26 [] [] rfl (fun E' m'=>E' 1=.list .none (a1.map (cI .u32))/\E' 2=.ptr (0::q) 0/\E' 6=.lit (.int .u32 x6.1)/\E' 7=.lit (.bool x6.2)/\E' 32=.lit (.bool y13)/\m'.blk (0::q)=some ((zaF.C a0))/\m'.gl=m.gl/\m.back q m'=m) ?_ ?_
  ·rcases za9 (!x6.2) with c14 | c14
   ·replace hy13:=zaA c14 hy13;refine zao fun K hK=>?_;simp only [go_sem,seval,c14];apply hK;obtain rfl:=zag hy13;refine ⟨by decide,?_⟩;simp only [go_sem,seval,zam,zak]
   ·replace hy13:=zaB c14 hy13;refine zao fun K hK=>?_;simp only [go_sem,seval,c14];apply hK;obtain rfl:=zag hy13;refine ⟨by decide,?_⟩;simp only [go_sem,seval,zam,zak]
  ·intro E15 m16 e17 _;simp only [zaa];refine zbF y13 (by simp only [go_sem,e17]) (fun c18=>?_) (fun c18=>?_)
   ·replace h:=zaA c18 h;refine zah ?_;obtain ⟨x19,h21,h⟩:=bind_some h;obtain ⟨x20,h22,h⟩:=bind_some h;refine zaO (tbl:=[0,1,0,4,0,31,63,0,127,511]) (ord:=[(0,0),(1,0),(2,0),(3,1),(4,0),(5,0),(6,0),(7,0),(8,0),(9,0)]) 36 rfl (by kernel_rfl) (by kernel_rfl) fun K hK=>?_;simp only [go_sem,seval,e17];refine zaT (ziu x6.2 _ h21 _ _ _ (by simp only [go_sem])) rfl ?_;simp only [go_sem,seval,e17];refine zaT (zmU a0.Op_ x6.1 _ h22 _ _ _ (by simp only [go_sem])) rfl ?_;simp only [go_sem,seval,e17];apply hK;simp only [zaa];refine zau ?_
    try simp only [zat]
    obtain rfl:=zag h;refine ⟨by simp,?_⟩;simp only [go_sem,seval,e17]
   ·replace h:=zaB c18 h;refine zav ?_
    try simp only [zaa]
    refine zah ?_;obtain ⟨x23,h28,h⟩:=bind_some h;obtain ⟨f25,f26,f27⟩:=zaw h28;have f29:a0.zax[1]? = some x23:=f27;obtain ⟨x24,h30,h⟩:=bind_some h;refine zao fun K hK=>?_;simp only [go_sem,seval,Int.reduceToNat,f25,f26,f29,e17];refine SC.by_ (zj7 x23 a1 _ h30 _ _ _ (by simp only [go_sem])) ?_;simp only [go_sem,seval];apply hK;refine zah ?_;refine zan fun K hK=>?_;simp only [go_sem,seval];apply hK;refine zbn (!x24.2) (fun c31=>?_) (fun c31=>?_)
    ·replace h:=zaA c31 h;refine zan fun K hK=>?_;simp only [go_sem,Nat.reduceAdd,c31];apply hK;refine zau ?_
     try simp only [zat]
     obtain rfl:=zag h;refine ⟨by simp,?_⟩;simp only [go_sem,seval,e17]
    ·replace h:=zaB c31 h;refine zav ?_
     try simp only [zaa]
     refine zah ?_;obtain ⟨x32,h33,h⟩:=bind_some h;refine zao fun K hK=>?_;simp only [go_sem,seval,c31,e17];refine SC.by_ (zmT a0.Op_ x6.1 x24.1 _ h33 _ _ _ (by simp only [go_sem])) ?_;simp only [go_sem,seval];apply hK;refine zau ?_;obtain rfl:=zag h;refine ⟨by simp,?_⟩;simp only [go_sem,seval,e17]
theorem zgn:∀n,zkd (zg1 n)
 | 0=>fun _ _ _ h=>zbP h
 | n+1=>zls (zgn n) n
def zhH (f:zai->zae->(List Int)->Option (Int × zai)):Prop:=∀a0 a1 a2 r,f a0 a1 a2=some r->∀(q:Pa) (m:M) (vs:List V) (P0:Pa) (zP0:Nat),vs.map V.weak1=[.ptr P0 0,.agg ((zae.C a1)),.list .none (a2.map (cI .u64))]/\m.blk P0=some ((zas.C a0.p_)++[.lit (.int .i64 a0.zdA),.lit (.int .i64 a0.zcI),.lit (.int .i64 a0.e_),.list .self (a0.za4.map zay.C)])/\m.ver P0 4=zP0+a0.za4.length/\m.gl 0=.eptr [(cA zaJ.C zbx)] 0 0->SC Tryz.prog 178 vs q m (fun v m'=>v=.lit (.int .u64 r.1)/\m'=(m.setv P0 4 ((zas.C r.2.p_)++[.lit (.int .i64 r.2.zdA),.lit (.int .i64 r.2.zcI),.lit (.int .i64 r.2.e_),.list .self (r.2.za4.map zay.C)]) (zP0+r.2.za4.length)))
theorem zhl (n:Nat):zhH (zcY n):=by
 rintro a0 a1 a2 r h q m vs P0 zP0 ⟨hv,hmP0,hvrP0,hg0⟩;refine SC.weak ?_;rw [hv];refine SC.apart hmP0 fun hpP0=>?_;have hmsP0:=za0 hmP0
 try simp only [go_sem] at hmP0 hmsP0
 refine SC_w Tryz.func178 rfl (fun xs w=>Tryz.call178 xs w) Tryz.ntmps178 (by kernel_rfl) Tryz.results178 ?_;unfold zcY at h;refine zan fun K hK=>?_;simp only [go_sem,Nat.reduceAdd];apply hK;refine zah ?_;obtain ⟨y2,hy2,h⟩:=bind_some h;refine zbf 15 [] [] rfl (fun E' m'=>E' 0=.ptr P0 0/\E' 2=.list .none (a2.map (cI .u64))/\E' 4=.ptr (0::q) 0/\E' 7=.lit (.bool y2)/\m'.blk P0=some ((zas.C a0.p_)++[.lit (.int .i64 a0.zdA),.lit (.int .i64 a0.zcI),.lit (.int .i64 a0.e_),.list .self (a0.za4.map zay.C)])/\m'.blk (0::q)=some ((zae.C a1))/\m'.ver P0 4=zP0+a0.za4.length/\m'.gl=m.gl/\m.back q m'=(m.setv P0 4 ((zas.C a0.p_)++[.lit (.int .i64 a0.zdA),.lit (.int .i64 a0.zcI),.lit (.int .i64 a0.e_),.list .self (a0.za4.map zay.C)]) (zP0+a0.za4.length))) ?_ ?_
 ·rcases za9 (decide ((0:Int)<(a1.zax.length:Int))) with c3 | c3
  ·replace hy2:=zaA c3 hy2;obtain ⟨x4,h8,hy2⟩:=bind_some hy2;obtain ⟨f5,f6,f7⟩:=zaw h8;have f9:a1.zax[0]? = some x4:=f7;refine zao fun K hK=>?_;simp only [go_sem,seval,f5,f6,f9];apply hK;obtain rfl:=zag hy2;refine ⟨by decide,?_⟩;simp only [go_sem,seval,zam,zak,hmsP0,zdN hvrP0,hvrP0,pz2 hpP0,hmP0]
  ·replace hy2:=zaB c3 hy2;refine zao fun K hK=>?_;simp only [go_sem,seval,c3];apply hK;obtain rfl:=zag hy2;refine ⟨by decide,?_⟩;simp only [go_sem,seval,zam,zak,hmsP0,zdN hvrP0,hvrP0,pz2 hpP0,hmP0]
 ·intro E10 m11 e12 _;simp only [zaa];refine zan fun K hK=>?_;simp only [go_sem,Nat.reduceAdd];apply hK;refine zah ?_;refine zan fun K hK=>?_;simp only [go_sem,seval,e12];apply hK;refine zbF (decide ((1:Int)<(a2.length:Int))) (by simp only [go_sem,↓reduceIte]) (fun c13=>?_) (fun c13=>?_)
  ·replace h:=zaA c13 h;obtain ⟨x14,h18,h⟩:=bind_some h;obtain ⟨f15,f16,f17⟩:=zaw h18;have f19:a2[1]? = some x14:=f17;refine zao fun K hK=>?_;simp only [go_sem,seval,Int.reduceToNat,f15,f16,f19,e12];apply hK;refine zah ?_;refine zan fun K hK=>?_;simp only [go_sem,seval,e12];apply hK;refine zbn y2 (fun c20=>?_) (fun c20=>?_)
   ·replace h:=zaA c20 h;refine zah ?_;obtain ⟨x21,h26,h⟩:=bind_some h;obtain ⟨f23,f24,f25⟩:=zaw h26;have f27:a2[0]? = some x21:=f25;obtain ⟨x22,h28,h⟩:=bind_some h;refine zaO (tbl:=[0,1,0,4,12,0,63,127]) (ord:=[(0,0),(1,0),(2,0),(3,0),(4,0),(5,0),(6,0),(7,0)]) 32 rfl (by kernel_rfl) (by kernel_rfl) fun K hK=>?_;simp only [go_sem,seval,c20,f23,f24,f27,e12];refine zaT (zj6 a1.Op_ x21 x14 _ h28 _ _ _ (by simp only [go_sem])) rfl ?_;simp only [go_sem,↓reduceIte];apply hK;simp only [zaa];refine zau ?_
    try simp only [zat]
    obtain rfl:=zag h;refine ⟨by simp,?_⟩;simp only [go_sem,↓reduceIte,hmsP0,zdN hvrP0,e12]
   ·replace h:=zaB c20 h;refine zav ?_
    try simp only [zaa]
    refine zah ?_;refine zah ?_;obtain ⟨y29,hy29,h⟩:=bind_some h;refine zbf 32 [] [] rfl (fun E' m'=>E' 0=.ptr P0 0/\E' 2=.list .none (a2.map (cI .u64))/\E' 4=.ptr (0::q) 0/\E' 8=.lit (.int .u64 x14)/\E' 47=.lit (.bool y29)/\m'.blk P0=some ((zas.C a0.p_)++[.lit (.int .i64 a0.zdA),.lit (.int .i64 a0.zcI),.lit (.int .i64 a0.e_),.list .self (a0.za4.map zay.C)])/\m'.blk (0::q)=some ((zae.C a1))/\m'.ver P0 4=zP0+a0.za4.length/\m'.gl=m.gl/\m.back q m'=(m.setv P0 4 ((zas.C a0.p_)++[.lit (.int .i64 a0.zdA),.lit (.int .i64 a0.zcI),.lit (.int .i64 a0.e_),.list .self (a0.za4.map zay.C)]) (zP0+a0.za4.length))) ?_ ?_
    ·rcases za9 (decide (a1.Op_=([47]:Str))) with c30 | c30
     ·replace hy29:=zaA c30 hy29;refine zao fun K hK=>?_;simp only [go_sem,seval,c20,c30,e12];apply hK;obtain rfl:=zag hy29;refine ⟨by decide,?_⟩;simp only [go_sem,seval,hmsP0,zdN hvrP0,e12]
     ·replace hy29:=zaB c30 hy29;refine zao fun K hK=>?_;simp only [go_sem,seval,c20,c30,e12];apply hK;obtain rfl:=zag hy29;refine ⟨by decide,?_⟩;simp only [go_sem,seval,hmsP0,zdN hvrP0,e12]
    ·intro E31 m32 e33 _;simp only [zaa];refine zbF y29 (by simp only [go_sem,e33]) (fun c34=>?_) (fun c34=>?_)
     ·replace h:=zaA c34 h;obtain ⟨x35,h40,h⟩:=bind_some h;obtain ⟨f37,f38,f39⟩:=zaw h40;have f41:a2[0]? = some x35:=f39;obtain ⟨x36,h42,h⟩:=bind_some h;refine zao fun K hK=>?_;simp only [go_sem,seval,f37,f38,f41,e33];refine SC.by_ (zcB a0 (4:Int) (IntKind.u32.wrap x35) (IntKind.u32.wrap x14) _ h42 _ _ _ P0 zP0 (by simp only [go_sem,e33])) ?_;simp only [go_sem,Nat.reduceAdd];apply hK;refine zah ?_;obtain ⟨x43,h45,h⟩:=bind_some h;refine zao fun K hK=>?_;simp only [go_sem,seval,pz2 hpP0,e33];refine SC.by_ (zhy n a1.Op_ _ h45 _ _ _ (by simp only [go_sem,e33,hg0])) ?_;simp only [go_sem,seval];apply hK;refine zah ?_;refine zan fun K hK=>?_;simp only [go_sem,seval,e33];apply hK;refine zaG ?_;obtain ⟨y49,hy49,h⟩:=bind_some h;refine zbu [] [] rfl (fun c E' m'=>∃v47 v48,zcw a2 c v47 v48=some y49/\E' 0=.ptr P0 0/\E' 9=.ptr (44::q) 0/\E' 60=.list .none (a2.map (cI .u64))/\E' 61=.lit (.int .i64 (a2.length:Int))/\E' 62=.lit (.int .i64 v47)/\m'.blk P0=some ((zas.C x36.p_)++[.lit (.int .i64 x36.zdA),.lit (.int .i64 x36.zcI),.lit (.int .i64 x36.e_),.list .self (x36.za4.map zay.C)])/\m'.blk (44::q)=some ([.lit (.int .i64 v48.Op_),.lit (.int .u32 v48.N_),.list .self (v48.zax.map zaF.C)])/\m'.ver P0 4=zP0+x36.za4.length/\m'.gl=m.gl/\m.back q m'=(m.setv P0 4 ((zas.C x36.p_)++[.lit (.int .i64 x36.zdA),.lit (.int .i64 x36.zcI),.lit (.int .i64 x36.e_),.list .self (x36.za4.map zay.C)]) (zP0+x36.za4.length))) n ⟨(0:Int),(zaF.mk x43 (0:Int) []),hy49,?_⟩ ?_
      ·simp only [go_sem,seval,zam,zaY,hmsP0,zbK hpP0,zdN hvrP0,pz2 hpP0,e33]
      rintro i46 c50 E51 m52 ⟨v47,v48,hy49,e53⟩ _
      rcases c50 with _ | c50
      ·exact absurd hy49 (by rw [zcw];exact fun e=>nomatch e)
      rw [zcw] at hy49;refine zan fun K hK=>?_;simp only [go_sem,e53];apply hK;refine zah ?_;refine zbF (decide (v47<(a2.length:Int))) (by simp only [go_sem,↓reduceIte]) (fun c54=>?_) (fun c54=>?_)
      ·replace hy49:=zaA c54 hy49;refine zav ?_
       try simp only [zaa]
       refine zah ?_;refine zaG ?_;refine zah ?_;obtain ⟨x55,h59,hy49⟩:=bind_some hy49;obtain ⟨f56,f57,f58⟩:=zaw h59;refine zao fun K hK=>?_;simp only [go_sem,seval,f56,f57,f58,e53];apply hK;obtain ⟨x60,h61,hy49⟩:=bind_some hy49;obtain ⟨f62,hy49⟩:=zaM hy49;have f63:v48.zax.length+1<=1073741824:=by first | omega | (simp only [List.length_append,List.length_cons,List.length_nil] at f62 ⊢;omega)
       have f64:v48.zax.length<=1073741823:=by first | omega | (simp only [List.length_append,List.length_cons,List.length_nil] at f62 ⊢;omega)
       refine zaO (tbl:=[0,1,0,4,12,28,63,127,255]) (ord:=[(2,0),(3,0),(4,0),(0,0),(1,1),(5,0),(6,0),(7,0),(8,0)]) 13 rfl (by kernel_rfl) (by kernel_rfl) fun K hK=>?_;simp only [go_sem,seval];refine zaT (zjJ (IntKind.u32.wrap x55) _ h61 _ _ _ (by simp only [go_sem])) rfl ?_;simp only [go_sem,seval,f63,e53];apply hK;simp only [zaa,zaq];refine zao fun K hK=>?_;simp only [go_sem,seval,e53];apply hK;refine ⟨c50,Nat.lt_succ_self _,(IntKind.i64.wrap (v47+(1:Int))),({ v48 with zax:=(v48.zax++[x60]) }:zaF),hy49,?_⟩;simp only [go_sem,seval,zam,zaY,zaW,pz2 hpP0,e53]
      ·replace hy49:=zaB c54 hy49;refine zbG ?_
       try simp only [zaS,zaK,↓reduceIte,zaa]
       obtain rfl:=zag hy49;refine zah ?_;obtain ⟨x65,h66,h⟩:=bind_some h;refine zao fun K hK=>?_;simp only [go_sem,seval,c54,e53];refine SC.by_ (zgn n v48 [] _ h66 _ _ _ (by simp only [go_sem])) ?_;simp only [go_sem,seval];apply hK;refine zah ?_;refine zan fun K hK=>?_;simp only [go_sem,seval];apply hK;refine zbn (!x65.2) (fun c67=>?_) (fun c67=>?_)
       ·replace h:=zaA c67 h;refine zao fun K hK=>?_;simp only [go_sem,seval,c67,e53];apply hK;refine zan fun K hK=>?_;simp only [go_sem,seval];apply hK;refine zau ?_;obtain rfl:=zag h;refine ⟨by simp,?_⟩;simp only [go_sem,↓reduceIte,zaz hpP0,e53]
       ·replace h:=zaB c67 h;refine zav ?_
        try simp only [zaa]
        refine zan fun K hK=>?_;simp only [go_sem,seval,c67];apply hK;refine zau ?_;obtain rfl:=zag h;refine ⟨by simp,?_⟩;simp only [go_sem,↓reduceIte,e53]
     ·replace h:=zaB c34 h;refine zav ?_
      try simp only [zaa]
      refine zah ?_;obtain ⟨x71,h73,h⟩:=bind_some h;refine zao fun K hK=>?_;simp only [go_sem,seval,e33];refine SC.by_ (zhy n a1.Op_ _ h73 _ _ _ (by simp only [go_sem,e33,hg0])) ?_;simp only [go_sem,seval];apply hK;refine zah ?_;refine zan fun K hK=>?_;simp only [go_sem,seval,e33];apply hK;refine zaG ?_;obtain ⟨y77,hy77,h⟩:=bind_some h;refine zbu [] [] rfl (fun c E' m'=>∃v75 v76,zcd a2 c v75 v76=some y77/\E' 0=.ptr P0 0/\E' 9=.ptr (36::q) 0/\E' 60=.list .none (a2.map (cI .u64))/\E' 61=.lit (.int .i64 (a2.length:Int))/\E' 62=.lit (.int .i64 v75)/\m'.blk P0=some ((zas.C a0.p_)++[.lit (.int .i64 a0.zdA),.lit (.int .i64 a0.zcI),.lit (.int .i64 a0.e_),.list .self (a0.za4.map zay.C)])/\m'.blk (36::q)=some ([.lit (.int .i64 v76.Op_),.lit (.int .u32 v76.N_),.list .self (v76.zax.map zaF.C)])/\m'.ver P0 4=zP0+a0.za4.length/\m'.gl=m.gl/\m.back q m'=(m.setv P0 4 ((zas.C a0.p_)++[.lit (.int .i64 a0.zdA),.lit (.int .i64 a0.zcI),.lit (.int .i64 a0.e_),.list .self (a0.za4.map zay.C)]) (zP0+a0.za4.length))) n ⟨(0:Int),(zaF.mk x71 (0:Int) []),hy77,?_⟩ ?_
      ·simp only [go_sem,seval,zam,zaY,hmsP0,zdN hvrP0,pz2 hpP0,e33]
      rintro i74 c78 E79 m80 ⟨v75,v76,hy77,e81⟩ _
      rcases c78 with _ | c78
      ·exact absurd hy77 (by rw [zcd];exact fun e=>nomatch e)
      rw [zcd] at hy77;refine zan fun K hK=>?_;simp only [go_sem,e81];apply hK;refine zah ?_;refine zbF (decide (v75<(a2.length:Int))) (by simp only [go_sem,↓reduceIte]) (fun c82=>?_) (fun c82=>?_)
      ·replace hy77:=zaA c82 hy77;refine zav ?_
       try simp only [zaa]
       refine zah ?_;refine zaG ?_;refine zah ?_;obtain ⟨x83,h87,hy77⟩:=bind_some hy77;obtain ⟨f84,f85,f86⟩:=zaw h87;refine zao fun K hK=>?_;simp only [go_sem,seval,f84,f85,f86,e81];apply hK;obtain ⟨x88,h89,hy77⟩:=bind_some hy77;obtain ⟨f90,hy77⟩:=zaM hy77;have f91:v76.zax.length+1<=1073741824:=by first | omega | (simp only [List.length_append,List.length_cons,List.length_nil] at f90 ⊢;omega)
       have f92:v76.zax.length<=1073741823:=by first | omega | (simp only [List.length_append,List.length_cons,List.length_nil] at f90 ⊢;omega)
       refine zaO (tbl:=[0,1,0,4,12,28,63,127,255]) (ord:=[(2,0),(3,0),(4,0),(0,0),(1,1),(5,0),(6,0),(7,0),(8,0)]) 13 rfl (by kernel_rfl) (by kernel_rfl) fun K hK=>?_;simp only [go_sem,seval];refine zaT (zjJ (IntKind.u32.wrap x83) _ h89 _ _ _ (by simp only [go_sem])) rfl ?_;simp only [go_sem,seval,f91,e81];apply hK;simp only [zaa,zaq];refine zao fun K hK=>?_;simp only [go_sem,seval,e81];apply hK;refine ⟨c78,Nat.lt_succ_self _,(IntKind.i64.wrap (v75+(1:Int))),({ v76 with zax:=(v76.zax++[x88]) }:zaF),hy77,?_⟩;simp only [go_sem,seval,zam,zaY,zaW,hmsP0,zdN hvrP0,pz2 hpP0,e81]
      ·replace hy77:=zaB c82 hy77;refine zbG ?_
       try simp only [zaS,zaK,↓reduceIte,zaa]
       obtain rfl:=zag hy77;refine zah ?_;obtain ⟨x93,h94,h⟩:=bind_some h;refine zao fun K hK=>?_;simp only [go_sem,seval,c82,e81];refine SC.by_ (zgn n v76 [] _ h94 _ _ _ (by simp only [go_sem])) ?_;simp only [go_sem,seval];apply hK;refine zah ?_;refine zan fun K hK=>?_;simp only [go_sem,seval];apply hK;refine zbn (!x93.2) (fun c95=>?_) (fun c95=>?_)
       ·replace h:=zaA c95 h;refine zao fun K hK=>?_;simp only [go_sem,seval,c95,e81];apply hK;refine zan fun K hK=>?_;simp only [go_sem,seval];apply hK;refine zau ?_;obtain rfl:=zag h;refine ⟨by simp,?_⟩;simp only [go_sem,↓reduceIte,zaz hpP0,hmsP0,zdN hvrP0,e81]
       ·replace h:=zaB c95 h;refine zav ?_
        try simp only [zaa]
        refine zan fun K hK=>?_;simp only [go_sem,seval,c95];apply hK;refine zau ?_;obtain rfl:=zag h;refine ⟨by simp,?_⟩;simp only [go_sem,↓reduceIte,hmsP0,zdN hvrP0,e81]
  ·replace h:=zaB c13 h;refine zav ?_
   try simp only [zaa]
   refine zah ?_;refine zan fun K hK=>?_;simp only [go_sem,seval,c13,e12];apply hK;refine zbn y2 (fun c99=>?_) (fun c99=>?_)
   ·replace h:=zaA c99 h;refine zah ?_;obtain ⟨x100,h105,h⟩:=bind_some h;obtain ⟨f102,f103,f104⟩:=zaw h105;have f106:a2[0]? = some x100:=f104;obtain ⟨x101,h107,h⟩:=bind_some h;refine zaO (tbl:=[0,1,0,4,12,0,63,127]) (ord:=[(0,0),(1,0),(2,0),(3,0),(4,0),(5,0),(6,0),(7,0)]) 28 rfl (by kernel_rfl) (by kernel_rfl) fun K hK=>?_;simp only [go_sem,seval,c99,f102,f103,f106,e12];refine zaT (zj6 a1.Op_ x100 (0:Int) _ h107 _ _ _ (by simp only [go_sem])) rfl ?_;simp only [go_sem,↓reduceIte];apply hK;simp only [zaa];refine zau ?_
    try simp only [zat]
    obtain rfl:=zag h;refine ⟨by simp,?_⟩;simp only [go_sem,↓reduceIte,hmsP0,zdN hvrP0,e12]
   ·replace h:=zaB c99 h;refine zav ?_
    try simp only [zaa]
    refine zah ?_;refine zah ?_;obtain ⟨y108,hy108,h⟩:=bind_some h;refine zbf 28 [] [] rfl (fun E' m'=>E' 0=.ptr P0 0/\E' 2=.list .none (a2.map (cI .u64))/\E' 4=.ptr (0::q) 0/\E' 8=.lit (.int .u64 (0:Int))/\E' 47=.lit (.bool y108)/\m'.blk P0=some ((zas.C a0.p_)++[.lit (.int .i64 a0.zdA),.lit (.int .i64 a0.zcI),.lit (.int .i64 a0.e_),.list .self (a0.za4.map zay.C)])/\m'.blk (0::q)=some ((zae.C a1))/\m'.ver P0 4=zP0+a0.za4.length/\m'.gl=m.gl/\m.back q m'=(m.setv P0 4 ((zas.C a0.p_)++[.lit (.int .i64 a0.zdA),.lit (.int .i64 a0.zcI),.lit (.int .i64 a0.e_),.list .self (a0.za4.map zay.C)]) (zP0+a0.za4.length))) ?_ ?_
    ·rcases za9 (decide (a1.Op_=([47]:Str))) with c109 | c109
     ·replace hy108:=zaA c109 hy108;refine zao fun K hK=>?_;simp only [go_sem,seval,c99,c109,e12];apply hK;obtain rfl:=zag hy108;refine ⟨by decide,?_⟩;simp only [go_sem,seval,hmsP0,zdN hvrP0,e12]
     ·replace hy108:=zaB c109 hy108;refine zao fun K hK=>?_;simp only [go_sem,seval,c99,c109,e12];apply hK;obtain rfl:=zag hy108;refine ⟨by decide,?_⟩;simp only [go_sem,seval,hmsP0,zdN hvrP0,e12]
    ·intro E110 m111 e112 _;simp only [zaa];refine zbF y108 (by simp only [go_sem,e112]) (fun c113=>?_) (fun c113=>?_)
     ·replace h:=zaA c113 h;obtain ⟨x114,h119,h⟩:=bind_some h;obtain ⟨f116,f117,f118⟩:=zaw h119;have f120:a2[0]? = some x114:=f118;obtain ⟨x115,h121,h⟩:=bind_some h;refine zao fun K hK=>?_;simp only [go_sem,seval,f116,f117,f120,e112];refine SC.by_ (zcB a0 (4:Int) (IntKind.u32.wrap x114) (IntKind.u32.wrap (0:Int)) _ h121 _ _ _ P0 zP0 (by simp only [go_sem,e112])) ?_;simp only [go_sem,Nat.reduceAdd];apply hK;refine zah ?_;obtain ⟨x122,h124,h⟩:=bind_some h;refine zao fun K hK=>?_;simp only [go_sem,seval,pz2 hpP0,e112];refine SC.by_ (zhy n a1.Op_ _ h124 _ _ _ (by simp only [go_sem,e112,hg0])) ?_;simp only [go_sem,seval];apply hK;refine zah ?_;refine zan fun K hK=>?_;simp only [go_sem,seval,e112];apply hK;refine zaG ?_;obtain ⟨y128,hy128,h⟩:=bind_some h;refine zbu [] [] rfl (fun c E' m'=>∃v126 v127,zcv a2 c v126 v127=some y128/\E' 0=.ptr P0 0/\E' 9=.ptr (40::q) 0/\E' 60=.list .none (a2.map (cI .u64))/\E' 61=.lit (.int .i64 (a2.length:Int))/\E' 62=.lit (.int .i64 v126)/\m'.blk P0=some ((zas.C x115.p_)++[.lit (.int .i64 x115.zdA),.lit (.int .i64 x115.zcI),.lit (.int .i64 x115.e_),.list .self (x115.za4.map zay.C)])/\m'.blk (40::q)=some ([.lit (.int .i64 v127.Op_),.lit (.int .u32 v127.N_),.list .self (v127.zax.map zaF.C)])/\m'.ver P0 4=zP0+x115.za4.length/\m'.gl=m.gl/\m.back q m'=(m.setv P0 4 ((zas.C x115.p_)++[.lit (.int .i64 x115.zdA),.lit (.int .i64 x115.zcI),.lit (.int .i64 x115.e_),.list .self (x115.za4.map zay.C)]) (zP0+x115.za4.length))) n ⟨(0:Int),(zaF.mk x122 (0:Int) []),hy128,?_⟩ ?_
      ·simp only [go_sem,seval,zam,zaY,hmsP0,zbK hpP0,zdN hvrP0,pz2 hpP0,e112]
      rintro i125 c129 E130 m131 ⟨v126,v127,hy128,e132⟩ _
      rcases c129 with _ | c129
      ·exact absurd hy128 (by rw [zcv];exact fun e=>nomatch e)
      rw [zcv] at hy128;refine zan fun K hK=>?_;simp only [go_sem,e132];apply hK;refine zah ?_;refine zbF (decide (v126<(a2.length:Int))) (by simp only [go_sem,↓reduceIte]) (fun c133=>?_) (fun c133=>?_)
      ·replace hy128:=zaA c133 hy128;refine zav ?_
       try simp only [zaa]
       refine zah ?_;refine zaG ?_;refine zah ?_;obtain ⟨x134,h138,hy128⟩:=bind_some hy128;obtain ⟨f135,f136,f137⟩:=zaw h138;refine zao fun K hK=>?_;simp only [go_sem,seval,f135,f136,f137,e132];apply hK;obtain ⟨x139,h140,hy128⟩:=bind_some hy128;obtain ⟨f141,hy128⟩:=zaM hy128;have f142:v127.zax.length+1<=1073741824:=by first | omega | (simp only [List.length_append,List.length_cons,List.length_nil] at f141 ⊢;omega)
       have f143:v127.zax.length<=1073741823:=by first | omega | (simp only [List.length_append,List.length_cons,List.length_nil] at f141 ⊢;omega)
       refine zaO (tbl:=[0,1,0,4,12,28,63,127,255]) (ord:=[(2,0),(3,0),(4,0),(0,0),(1,1),(5,0),(6,0),(7,0),(8,0)]) 13 rfl (by kernel_rfl) (by kernel_rfl) fun K hK=>?_;simp only [go_sem,seval];refine zaT (zjJ (IntKind.u32.wrap x134) _ h140 _ _ _ (by simp only [go_sem])) rfl ?_;simp only [go_sem,seval,f142,e132];apply hK;simp only [zaa,zaq];refine zao fun K hK=>?_;simp only [go_sem,seval,e132];apply hK;refine ⟨c129,Nat.lt_succ_self _,(IntKind.i64.wrap (v126+(1:Int))),({ v127 with zax:=(v127.zax++[x139]) }:zaF),hy128,?_⟩;simp only [go_sem,seval,zam,zaY,zaW,pz2 hpP0,e132]
      ·replace hy128:=zaB c133 hy128;refine zbG ?_
       try simp only [zaS,zaK,↓reduceIte,zaa]
       obtain rfl:=zag hy128;refine zah ?_;obtain ⟨x144,h145,h⟩:=bind_some h;refine zao fun K hK=>?_;simp only [go_sem,seval,c133,e132];refine SC.by_ (zgn n v127 [] _ h145 _ _ _ (by simp only [go_sem])) ?_;simp only [go_sem,seval];apply hK;refine zah ?_;refine zan fun K hK=>?_;simp only [go_sem,seval];apply hK;refine zbn (!x144.2) (fun c146=>?_) (fun c146=>?_)
       ·replace h:=zaA c146 h;refine zao fun K hK=>?_;simp only [go_sem,seval,c146,e132];apply hK;refine zan fun K hK=>?_;simp only [go_sem,seval];apply hK;refine zau ?_;obtain rfl:=zag h;refine ⟨by simp,?_⟩;simp only [go_sem,↓reduceIte,zaz hpP0,e132]
       ·replace h:=zaB c146 h;refine zav ?_
        try simp only [zaa]
        refine zan fun K hK=>?_;simp only [go_sem,seval,c146];apply hK;refine zau ?_;obtain rfl:=zag h;refine ⟨by simp,?_⟩;simp only [go_sem,↓reduceIte,e132]
     ·replace h:=zaB c113 h;refine zav ?_
      try simp only [zaa]
      refine zah ?_;obtain ⟨x150,h152,h⟩:=bind_some h;refine zao fun K hK=>?_;simp only [go_sem,seval,e112];refine SC.by_ (zhy n a1.Op_ _ h152 _ _ _ (by simp only [go_sem,e112,hg0])) ?_;simp only [go_sem,seval];apply hK;refine zah ?_;refine zan fun K hK=>?_;simp only [go_sem,seval,e112];apply hK;refine zaG ?_;obtain ⟨y156,hy156,h⟩:=bind_some h;refine zbu [] [] rfl (fun c E' m'=>∃v154 v155,zcu a2 c v154 v155=some y156/\E' 0=.ptr P0 0/\E' 9=.ptr (32::q) 0/\E' 60=.list .none (a2.map (cI .u64))/\E' 61=.lit (.int .i64 (a2.length:Int))/\E' 62=.lit (.int .i64 v154)/\m'.blk P0=some ((zas.C a0.p_)++[.lit (.int .i64 a0.zdA),.lit (.int .i64 a0.zcI),.lit (.int .i64 a0.e_),.list .self (a0.za4.map zay.C)])/\m'.blk (32::q)=some ([.lit (.int .i64 v155.Op_),.lit (.int .u32 v155.N_),.list .self (v155.zax.map zaF.C)])/\m'.ver P0 4=zP0+a0.za4.length/\m'.gl=m.gl/\m.back q m'=(m.setv P0 4 ((zas.C a0.p_)++[.lit (.int .i64 a0.zdA),.lit (.int .i64 a0.zcI),.lit (.int .i64 a0.e_),.list .self (a0.za4.map zay.C)]) (zP0+a0.za4.length))) n ⟨(0:Int),(zaF.mk x150 (0:Int) []),hy156,?_⟩ ?_
      ·simp only [go_sem,seval,zam,zaY,hmsP0,zdN hvrP0,pz2 hpP0,e112]
      rintro i153 c157 E158 m159 ⟨v154,v155,hy156,e160⟩ _
      rcases c157 with _ | c157
      ·exact absurd hy156 (by rw [zcu];exact fun e=>nomatch e)
      rw [zcu] at hy156;refine zan fun K hK=>?_;simp only [go_sem,e160];apply hK;refine zah ?_;refine zbF (decide (v154<(a2.length:Int))) (by simp only [go_sem,↓reduceIte]) (fun c161=>?_) (fun c161=>?_)
      ·replace hy156:=zaA c161 hy156;refine zav ?_
       try simp only [zaa]
       refine zah ?_;refine zaG ?_;refine zah ?_;obtain ⟨x162,h166,hy156⟩:=bind_some hy156;obtain ⟨f163,f164,f165⟩:=zaw h166;refine zao fun K hK=>?_;simp only [go_sem,seval,f163,f164,f165,e160];apply hK;obtain ⟨x167,h168,hy156⟩:=bind_some hy156;obtain ⟨f169,hy156⟩:=zaM hy156;have f170:v155.zax.length+1<=1073741824:=by first | omega | (simp only [List.length_append,List.length_cons,List.length_nil] at f169 ⊢;omega)
       have f171:v155.zax.length<=1073741823:=by first | omega | (simp only [List.length_append,List.length_cons,List.length_nil] at f169 ⊢;omega)
       refine zaO (tbl:=[0,1,0,4,12,28,63,127,255]) (ord:=[(2,0),(3,0),(4,0),(0,0),(1,1),(5,0),(6,0),(7,0),(8,0)]) 13 rfl (by kernel_rfl) (by kernel_rfl) fun K hK=>?_;simp only [go_sem,seval];refine zaT (zjJ (IntKind.u32.wrap x162) _ h168 _ _ _ (by simp only [go_sem])) rfl ?_;simp only [go_sem,seval,f170,e160];apply hK;simp only [zaa,zaq];refine zao fun K hK=>?_;simp only [go_sem,seval,e160];apply hK;refine ⟨c157,Nat.lt_succ_self _,(IntKind.i64.wrap (v154+(1:Int))),({ v155 with zax:=(v155.zax++[x167]) }:zaF),hy156,?_⟩;simp only [go_sem,seval,zam,zaY,zaW,hmsP0,zdN hvrP0,pz2 hpP0,e160]
      ·replace hy156:=zaB c161 hy156;refine zbG ?_
       try simp only [zaS,zaK,↓reduceIte,zaa]
       obtain rfl:=zag hy156;refine zah ?_;obtain ⟨x172,h173,h⟩:=bind_some h;refine zao fun K hK=>?_;simp only [go_sem,seval,c161,e160];refine SC.by_ (zgn n v155 [] _ h173 _ _ _ (by simp only [go_sem])) ?_;simp only [go_sem,seval];apply hK;refine zah ?_;refine zan fun K hK=>?_;simp only [go_sem,seval];apply hK;refine zbn (!x172.2) (fun c174=>?_) (fun c174=>?_)
       ·replace h:=zaA c174 h;refine zao fun K hK=>?_;simp only [go_sem,seval,c174,e160];apply hK;refine zan fun K hK=>?_;simp only [go_sem,seval];apply hK;refine zau ?_;obtain rfl:=zag h;refine ⟨by simp,?_⟩;simp only [go_sem,↓reduceIte,zaz hpP0,hmsP0,zdN hvrP0,e160]
       ·replace h:=zaB c174 h;refine zav ?_
        try simp only [zaa]
        refine zan fun K hK=>?_;simp only [go_sem,seval,c174];apply hK;refine zau ?_;obtain rfl:=zag h;refine ⟨by simp,?_⟩;simp only [go_sem,↓reduceIte,hmsP0,zdN hvrP0,e160]
def zcX (f:zai->zal->(List (List Int))->zae->Option (Int × zai)):Prop:=∀a0 a1 a2 a3 r,f a0 a1 a2 a3=some r->∀(q:Pa) (m:M) (vs:List V) (P0:Pa) (P1:Pa) (zP0:Nat) (W A:Pa) (AS:List Pa) (LS:List Nat),vs.map V.weak1=[.ptr P0 0,.ptr P1 0,.agg ((zae.C a3))]/\m.blk P0=some ((zas.C a0.p_)++[.lit (.int .i64 a0.zdA),.lit (.int .i64 a0.zcI),.lit (.int .i64 a0.e_),.list .self (a0.za4.map zay.C)])/\m.blk P1=some (frC W A a1)/\m.ver P0 4=zP0+a0.za4.length/\HOk m.hp W A AS LS a1.za2 a1.zbm a2/\(P0=P1)=False/\(P1=P0)=False/\m.gl 0=.eptr [(cA zaJ.C zbx)] 0 0->SC Tryz.prog 132 vs q m (fun v m'=>v=.lit (.int .u64 r.1)/\m'=(m.setv P0 4 ((zas.C r.2.p_)++[.lit (.int .i64 r.2.zdA),.lit (.int .i64 r.2.zcI),.lit (.int .i64 r.2.e_),.list .self (r.2.za4.map zay.C)]) (zP0+r.2.za4.length)))
def zdR (f:zai->zal->(List (List Int))->zae->Int->Option (Int × zai)):Prop:=∀a0 a1 a2 a3 a4 r,f a0 a1 a2 a3 a4=some r->∀(q:Pa) (m:M) (vs:List V) (P0:Pa) (P1:Pa) (zP0:Nat) (W A:Pa) (AS:List Pa) (LS:List Nat),vs.map V.weak1=[.ptr P0 0,.ptr P1 0,.agg ((zae.C a3)),.lit (.int .i64 a4)]/\m.blk P0=some ((zas.C a0.p_)++[.lit (.int .i64 a0.zdA),.lit (.int .i64 a0.zcI),.lit (.int .i64 a0.e_),.list .self (a0.za4.map zay.C)])/\m.blk P1=some (frC W A a1)/\m.ver P0 4=zP0+a0.za4.length/\HOk m.hp W A AS LS a1.za2 a1.zbm a2/\(P0=P1)=False/\(P1=P0)=False/\m.gl 0=.eptr [(cA zaJ.C zbx)] 0 0->SC Tryz.prog 176 vs q m (fun v m'=>v=.lit (.int .u32 r.1)/\m'=(m.setv P0 4 ((zas.C r.2.p_)++[.lit (.int .i64 r.2.zdA),.lit (.int .i64 r.2.zcI),.lit (.int .i64 r.2.e_),.list .self (r.2.za4.map zay.C)]) (zP0+r.2.za4.length)))
theorem zhk {zdr:zai->zal->(List (List Int))->zae->Int->Option (Int × zai)} (zhu:zdR zdr) {zbc:zai->zal->(List (List Int))->zae->Option (Int × zai)} (zd5:zcX zbc) (n:Nat):zcX (zcW zdr zbc n):=by
 rintro a0 a1 a2 a3 r h q m vs P0 P1 zP0 W A AS LS ⟨hv,hmP0,hmP1,hvrP0,hkF,hn0_1,hn1_0,hg0⟩;refine SC.weak ?_;rw [hv];refine SC.apart hmP0 fun hpP0=>?_;refine SC.apart hmP1 fun hpP1=>?_;have hmsP0:=za0 hmP0
 try simp only [go_sem] at hmP0 hmsP0
 try simp only [go_sem] at hmP1
 refine SC_w Tryz.func132 rfl (fun xs w=>Tryz.call132 xs w) Tryz.ntmps132 (by kernel_rfl) Tryz.results132 ?_;unfold zcW at h;refine zan fun K hK=>?_;simp only [go_sem,Nat.reduceAdd];apply hK;refine zah ?_;refine zan fun K hK=>?_;simp only [go_sem,seval];apply hK;refine zaG ?_;refine zan fun K hK=>?_;simp only [go_sem,seval];apply hK;refine zbF (decide (a3.Op_=([110,117,109]:Str))) (by simp only [go_sem,↓reduceIte]) (fun c2=>?_) (fun c2=>?_)
 ·replace h:=zaA c2 h;refine zan fun K hK=>?_;simp only [go_sem,seval,c2];apply hK;refine zau ?_
  try simp only [zat,zaC]
  obtain rfl:=zag h;refine ⟨by simp,?_⟩;simp only [go_sem,↓reduceIte,zam,zak,hmsP0,zdN hvrP0]
 ·replace h:=zaB c2 h;refine zan fun K hK=>?_;simp only [go_sem,seval,c2];apply hK;refine zbF (decide (a3.Op_=([118,97,114]:Str))) (by simp only [go_sem,↓reduceIte]) (fun c3=>?_) (fun c3=>?_)
  ·replace h:=zaA c3 h;refine zah ?_;obtain ⟨x4,h8,h⟩:=bind_some h;obtain ⟨f5,f6,f7⟩:=zaw h8;obtain ⟨w9,d10⟩:=zfD (f:=cU64) f7;refine zaO (tbl:=[0,1,3,7,0,16,63,127,255]) (ord:=[(0,0),(1,0),(2,0),(3,0),(4,0),(5,0),(6,0),(7,0),(8,0)]) 17 rfl (by kernel_rfl) (by kernel_rfl) fun K hK=>?_;simp only [go_sem,seval,pz2 hpP1,hkF.w,c3,f5,f6,d10,hmP1];apply hK;simp only [zaa];refine zau ?_
   try simp only [zat,zaC]
   obtain rfl:=zag h;refine ⟨by simp,?_⟩;simp only [go_sem,↓reduceIte,zam,zak,hmsP0,zdN hvrP0]
  ·replace h:=zaB c3 h;refine zan fun K hK=>?_;simp only [go_sem,seval,c3];apply hK;refine zbF (decide (a3.Op_=([105,110,100,101,120]:Str))) (by simp only [go_sem,↓reduceIte]) (fun c11=>?_) (fun c11=>?_)
   ·replace h:=zaA c11 h;refine zah ?_;obtain ⟨x12,h17,h⟩:=bind_some h;obtain ⟨f14,f15,f16⟩:=zaw h17;have f18:a3.zax[0]? = some x12:=f16;obtain ⟨x13,h19,h⟩:=bind_some h;refine zaO (tbl:=[0,0,0,4,12,28,0,64,255,511]) (ord:=[(0,0),(1,0),(2,0),(3,0),(4,0),(5,0),(6,0),(7,0),(8,0),(9,0)]) 20 rfl (by kernel_rfl) (by kernel_rfl) fun K hK=>?_;simp only [go_sem,seval,c11,f14,f15,f18];refine zaT (zhu a0 a1 a2 x12 a3.Var_ _ h19 _ _ _ P0 P1 zP0 W A AS LS (by simp only [go_sem,↓reduceIte,pz2 hpP0,pz2 hpP1,hkF,hn0_1,hn1_0,hmP0,hvrP0,hmP1,hg0])) rfl ?_;simp only [go_sem,↓reduceIte];apply hK;simp only [zaa];refine zah ?_;refine zah ?_;obtain ⟨x20,h21,h⟩:=bind_some h;refine zao fun K hK=>?_;simp only [go_sem,seval];refine SC.by_ (za1 x13.2 _ h21 _ _ _ P0 zP0 (by simp only [go_sem,↓reduceIte])) ?_;simp only [go_sem,Nat.reduceAdd];apply hK;refine zbn x20 (fun c22=>?_) (fun c22=>?_)
    ·replace h:=zaA c22 h;refine zan fun K hK=>?_;simp only [go_sem,Nat.reduceAdd,c22];apply hK;refine zau ?_
     try simp only [zat,zaC]
     obtain rfl:=zag h;refine ⟨by simp,?_⟩;simp only [go_sem,↓reduceIte,zam,zak,zbK hpP0]
    ·replace h:=zaB c22 h;refine zav ?_
     try simp only [zaa]
     refine zah ?_;obtain ⟨x23,h30,h⟩:=bind_some h;obtain ⟨f27,f28,f29⟩:=zaw h30;obtain ⟨w31,d32⟩:=zfD (f:=(cRef AS LS)) f29;obtain ⟨x24,h36,h⟩:=bind_some h;obtain ⟨f33,f34,f35⟩:=zaw h36;have hx_a_25:=f35;obtain ⟨a_25,d37,d38,ex_a_25,nw_a_25,na_a_25⟩:=HOk.get hkF f33 f35;obtain ⟨x26,h42,h⟩:=bind_some h;obtain ⟨f39,f40,f41⟩:=zaw h42;obtain ⟨w43,d44⟩:=zfD (f:=cU32) f41;refine zaO (tbl:=[0,1,3,7,0,16,63,127,0,511,1023,2047,4095]) (ord:=[(0,0),(1,0),(2,0),(3,0),(4,0),(5,0),(6,0),(7,0),(8,0),(9,0),(10,0),(11,0),(12,0)]) 35 rfl (by kernel_rfl) (by kernel_rfl) fun K hK=>?_;simp only [go_sem,seval,pz2 hpP0,pz2 hpP1,hkF.a,hn1_0,c22,f27,f28,d32,d37,d38,f39,f40,d44,hmP1];apply hK;simp only [zaa];refine zau ?_
     try simp only [zat,zaC]
     obtain rfl:=zag h;refine ⟨by simp,?_⟩;simp only [go_sem,↓reduceIte,zam,zak,zbK hpP0]
   ·replace h:=zaB c11 h;refine zav ?_
    try simp only [zaa,zaq]
    refine zan fun K hK=>?_;simp only [go_sem,Nat.reduceAdd,c11];apply hK;refine zah ?_;refine zan fun K hK=>?_;simp only [go_sem,seval];apply hK;refine zaG ?_;obtain ⟨y49,hy49,h⟩:=bind_some h;refine ziV 8 ([].map (cI .u64)) rfl (by simp only [go_sem,seval]) ?_;refine zbu [] [] rfl (fun c E' m'=>∃v46 v47 v48 o_v46 j_v46,zb8 zbc a3 a1 a2 c v46 v47 v48=some y49/\E' 0=.ptr P0 0/\E' 1=.ptr P1 0/\E' 5=.ptr (0::q) 0/\E' 8=.list (.st (.anon o_v46 j_v46)) (v46.map (cI .u64))/\m'.tok o_v46 j_v46=true/\q <:+ o_v46/\E' 57=.list .none (a3.zax.map zae.C)/\E' 58=.lit (.int .i64 (a3.zax.length:Int))/\E' 59=.lit (.int .i64 v47)/\m'.blk P0=some ((zas.C v48.p_)++[.lit (.int .i64 v48.zdA),.lit (.int .i64 v48.zcI),.lit (.int .i64 v48.e_),.list .self (v48.za4.map zay.C)])/\m'.blk P1=some (frC W A a1)/\m'.blk (0::q)=some ((zae.C a3))/\m'.ver P0 4=zP0+v48.za4.length/\m'.gl=m.gl/\m'.hp=m.hp/\m.back q m'=(m.setv P0 4 ((zas.C v48.p_)++[.lit (.int .i64 v48.zdA),.lit (.int .i64 v48.zcI),.lit (.int .i64 v48.e_),.list .self (v48.za4.map zay.C)]) (zP0+v48.za4.length))) n ⟨[],(0:Int),a0,(15::q),0,hy49,?_⟩ ?_
    ·simp only [go_sem,seval,zam,zaW,zak,hmsP0,zdN hvrP0,hvrP0,pz2 hpP0,pz2 hpP1,hmP0,hmP1]
    rintro i45 c50 E51 m52 ⟨v46,v47,v48,o_v46,j_v46,hy49,e53⟩ _
    rcases c50 with _ | c50
    ·exact absurd hy49 (by rw [zb8];exact fun e=>nomatch e)
    rw [zb8] at hy49;refine zan fun K hK=>?_;simp only [go_sem,Nat.reduceAdd,e53];apply hK;refine zah ?_;refine zbF (decide (v47<(a3.zax.length:Int))) (by simp only [go_sem,↓reduceIte]) (fun c54=>?_) (fun c54=>?_)
    ·replace hy49:=zaA c54 hy49;refine zav ?_
     try simp only [zaa]
     refine zah ?_;refine zaG ?_;refine zah ?_;obtain ⟨x55,h60,hy49⟩:=bind_some hy49;obtain ⟨f57,f58,f59⟩:=zaw h60;refine zao fun K hK=>?_;simp only [go_sem,seval,f57,f58,f59,e53];apply hK;refine zah ?_;obtain ⟨x61,h62,hy49⟩:=bind_some hy49;refine zao fun K hK=>?_;simp only [go_sem,seval,e53];refine SC.by_ (zd5 v48 a1 a2 x55 _ h62 _ _ _ P0 P1 zP0 W A AS LS (by simp only [go_sem,↓reduceIte,pz2 hpP0,pz2 hpP1,hkF,hn0_1,hn1_0,e53,hg0])) ?_;simp only [go_sem,seval];apply hK;refine zah ?_;refine zah ?_;obtain ⟨x63,h64,hy49⟩:=bind_some hy49;refine zao fun K hK=>?_;simp only [go_sem,seval,e53];refine SC.by_ (za1 x61.2 _ h64 _ _ _ P0 zP0 (by simp only [go_sem,↓reduceIte])) ?_;simp only [go_sem,Nat.reduceAdd];apply hK;refine zbn x63 (fun c65=>?_) (fun c65=>?_)
     ·replace hy49:=zaA c65 hy49;refine zan fun K hK=>?_;simp only [go_sem,Nat.reduceAdd,c65];apply hK;refine zau ?_
      try simp only [zat,zaC]
      obtain rfl:=zag hy49;simp only [Sum.elim_inr] at h;obtain rfl:=zag h;refine ⟨by simp,?_⟩;simp only [go_sem,↓reduceIte,zam,zbK hpP0,e53]
     ·replace hy49:=zaB c65 hy49;refine zav ?_
      try simp only [zaa]
      obtain ⟨f66,hy49⟩:=zaM hy49;have f67:v46.length+1<=1073741824:=by first | omega | (simp only [List.length_append,List.length_cons,List.length_nil] at f66 ⊢;omega)
      have f68:v46.length<=1073741823:=by first | omega | (simp only [List.length_append,List.length_cons,List.length_nil] at f66 ⊢;omega)
      refine zca fun K hK=>?_;simp only [go_sem,seval,c65,f67,e53];apply hK;simp only [zaa,zaq];refine zao fun K hK=>?_;simp only [go_sem,seval,e53];apply hK;refine ⟨c50,Nat.lt_succ_self _,(v46++[x61.1]),(IntKind.i64.wrap (v47+(1:Int))),x61.2,(15::i45::16::q),0,hy49,?_⟩;simp only [go_sem,seval,zam,zaW,zbK hpP0,pz2 hpP0,pz2 hpP1,hn1_0,e53]
    ·replace hy49:=zaB c54 hy49;refine zbG ?_
     try simp only [zaS,zaK,↓reduceIte,zaa]
     obtain rfl:=zag hy49;simp only [Sum.elim_inl] at h;refine zah ?_;refine zah ?_;obtain ⟨x69,h70,h⟩:=bind_some h;refine zao fun K hK=>?_;simp only [go_sem,seval,c54,e53];refine SC.by_ (zll a3.Op_ v46 _ h70 _ _ _ (by simp only [go_sem])) ?_;simp only [go_sem,seval];apply hK;refine zan fun K hK=>?_;simp only [go_sem,seval];apply hK;refine zbn x69.2 (fun c71=>?_) (fun c71=>?_)
     ·replace h:=zaA c71 h;refine zan fun K hK=>?_;simp only [go_sem,seval,c71];apply hK;refine zau ?_
      try simp only [zat]
      obtain rfl:=zag h;refine ⟨by simp,?_⟩;simp only [go_sem,↓reduceIte,e53]
     ·replace h:=zaB c71 h;refine zav ?_
      try simp only [zaa]
      refine zah ?_;obtain ⟨x72,h73,h⟩:=bind_some h;refine zao fun K hK=>?_;simp only [go_sem,seval,c71,e53];refine SC.by_ (zhl n v48 a3 v46 _ h73 _ _ _ P0 zP0 (by simp only [go_sem,e53,hg0])) ?_;simp only [go_sem,seval];apply hK;refine zau ?_;obtain rfl:=zag h;refine ⟨by simp,?_⟩;simp only [go_sem,↓reduceIte,zbK hpP0,e53]
theorem zhm {zbc:zai->zal->(List (List Int))->zae->Option (Int × zai)} (zd5:zcX zbc) (n:Nat):zdR (zeI zbc n):=by
 rintro a0 a1 a2 a3 a4 r h q m vs P0 P1 zP0 W A AS LS ⟨hv,hmP0,hmP1,hvrP0,hkF,hn0_1,hn1_0,hg0⟩;refine SC.weak ?_;rw [hv];refine SC.apart hmP0 fun hpP0=>?_;refine SC.apart hmP1 fun hpP1=>?_;have hmsP0:=za0 hmP0
 try simp only [go_sem] at hmP0 hmsP0
 try simp only [go_sem] at hmP1
 refine SC_w Tryz.func176 rfl (fun xs w=>Tryz.call176 xs w) Tryz.ntmps176 (by kernel_rfl) Tryz.results176 ?_;unfold zeI at h;refine zan fun K hK=>?_;simp only [go_sem,Nat.reduceAdd];apply hK;refine zah ?_;obtain ⟨x2,h3,h⟩:=bind_some h;refine zao fun K hK=>?_;simp only [go_sem,seval];refine SC.by_ (zd5 a0 a1 a2 a3 _ h3 _ _ _ P0 P1 zP0 W A AS LS (by simp only [go_sem,↓reduceIte,pz1 hpP0,pz1 hpP1,hkF,hn0_1,hn1_0,hmP0,hvrP0,hmP1,hg0])) ?_;simp only [go_sem,seval];apply hK;refine zah ?_;refine zah ?_;obtain ⟨x4,h5,h⟩:=bind_some h;refine zao fun K hK=>?_;simp only [go_sem,seval];refine SC.by_ (za1 x2.2 _ h5 _ _ _ P0 zP0 (by simp only [go_sem,↓reduceIte])) ?_;simp only [go_sem,Nat.reduceAdd];apply hK;refine zbn x4 (fun c6=>?_) (fun c6=>?_)
 ·replace h:=zaA c6 h;refine zan fun K hK=>?_;simp only [go_sem,Nat.reduceAdd,c6];apply hK;refine zau ?_
  try simp only [zat]
  obtain rfl:=zag h;refine ⟨by simp,?_⟩;simp only [go_sem,↓reduceIte,zam,zak,zbK hpP0]
 ·replace h:=zaB c6 h;refine zav ?_
  try simp only [zaa]
  refine zah ?_;obtain ⟨x7,h13,h⟩:=bind_some h;obtain ⟨f10,f11,f12⟩:=zaw h13;obtain ⟨w14,d15⟩:=zfD (f:=(cRef AS LS)) f12;obtain ⟨x8,h19,h⟩:=bind_some h;obtain ⟨f16,f17,f18⟩:=zaw h19;have hx_a_9:=f18;obtain ⟨a_9,d20,d21,ex_a_9,nw_a_9,na_a_9⟩:=HOk.get hkF f16 f18;refine zao fun K hK=>?_;simp only [go_sem,seval,pz1 hpP1,hkF.a,hn1_0,c6,f10,f11,d15,d20,hmP1];apply hK;refine zah ?_;obtain ⟨x22,h23,h⟩:=bind_some h;refine zao fun K hK=>?_;simp only [go_sem,seval];refine SC.by_ (zcB x2.2 (3:Int) (IntKind.u32.wrap x2.1) (IntKind.u32.wrap (x8.length:Int)) _ h23 _ _ _ P0 zP0 (by simp only [go_sem,↓reduceIte])) ?_;simp only [go_sem,Nat.reduceAdd];apply hK;refine zah ?_;refine zan fun K hK=>?_;simp only [go_sem,seval];apply hK;refine zbF (decide ((IntKind.u32.wrap (x8.length:Int))<=(IntKind.u32.wrap x2.1))) (by simp only [go_sem,↓reduceIte]) (fun c24=>?_) (fun c24=>?_)
  ·replace h:=zaA c24 h;refine zan fun K hK=>?_;simp only [go_sem,seval,c24];apply hK;refine zan fun K hK=>?_;simp only [go_sem,Nat.reduceAdd];apply hK;refine zau ?_
   try simp only [zat]
   obtain rfl:=zag h;refine ⟨by simp,?_⟩;simp only [go_sem,↓reduceIte,zam,zak,zbK hpP0]
  ·replace h:=zaB c24 h;refine zav ?_
   try simp only [zaa]
   refine zan fun K hK=>?_;simp only [go_sem,seval,c24];apply hK;refine zau ?_;obtain rfl:=zag h;refine ⟨by simp,?_⟩;simp only [go_sem,↓reduceIte,zam,zak,zbK hpP0]
theorem zdQ:∀n,zcX (zbl n)/\zdR (zd7 n)
 | 0=>⟨fun _ _ _ _ _ h=>zbP h,fun _ _ _ _ _ _ h=>zbP h⟩
 | n+1=>
   have ih:=zdQ n
   ⟨zhk ih.2 ih.1 n,zhm ih.1 n⟩
theorem zbI (n:Nat):zcX (zbl n):=(zdQ n).1
theorem zh8 (n:Nat):zdR (zd7 n):=(zdQ n).2
def zjV (f:zal->(List (List Int))->Int->Int->Option (zal × (List (List Int)))):Prop:=∀a0 a1 a2 a3 r,f a0 a1 a2 a3=some r->∀(q:Pa) (m:M) (vs:List V) (P0:Pa) (W A:Pa) (AS:List Pa) (LS:List Nat),vs.map V.weak1=[.ptr P0 0,.lit (.int .i64 a2),.lit (.int .u64 a3)]/\m.blk P0=some (frC W A a0)/\HOk m.hp W A AS LS a0.za2 a0.zbm a1->SC Tryz.prog 133 vs q m (fun v m'=>v=.tup []/\m'=((m.set P0 (frC W A r.1)).seth (hpU m.hp W r.1.za2 AS r.2))/\zcb a0 a1 r.1 r.2)
theorem zcN:zjV (zcc):=by
 rintro a0 a1 a2 a3 r h q m vs P0 W A AS LS ⟨hv,hmP0,hkF⟩;refine SC.weak ?_;rw [hv];refine SC.apart hmP0 fun hpP0=>?_;have hmsP0:=za0 hmP0
 try simp only [go_sem] at hmP0 hmsP0
 refine SC_w Tryz.func133 rfl (fun xs w=>Tryz.call133 xs w) Tryz.ntmps133 (by kernel_rfl) Tryz.results133 ?_;unfold zcc at h;refine zan fun K hK=>?_;simp only [go_sem,seval];apply hK;refine zbF (decide ((0:Int)<=a2)) (by simp only [go_sem,↓reduceIte]) (fun c1=>?_) (fun c1=>?_)
 ·replace h:=zaA c1 h;obtain ⟨x2,h9,h⟩:=bind_some h;obtain ⟨f6,f7,f8⟩:=zaw h9;obtain ⟨w10,d11⟩:=zfD (f:=cU64) f8;have f3:a2.toNat+1<=a0.za2.length:=by omega
  have kp4:zcb a0 a1 ({ a0 with za2:=(a0.za2.set a2.toNat a3) }:zal) a1:=zcb.setW zcb.refl;have hk5:HOk (hpU m.hp W ({ a0 with za2:=(a0.za2.set a2.toNat a3) }:zal).za2 AS a1) W A AS LS ({ a0 with za2:=(a0.za2.set a2.toNat a3) }:zal).za2 ({ a0 with za2:=(a0.za2.set a2.toNat a3) }:zal).zbm a1:=HOk.upk hkF kp4;refine zca fun K hK=>?_;simp only [go_sem,seval,zfK,hkF.w,f6,f7,f3,(HOk.setW hkF),hmP0];apply hK;simp only [];obtain rfl:=zag h;refine ⟨by simp,?_⟩;simp only [go_sem,zak,zcx,hmsP0,List.length_set,kp4]
 ·replace h:=zaB c1 h;refine zav ?_;obtain rfl:=zag h;refine ⟨by simp,?_⟩;simp only [go_sem,zak,hmsP0,HOk.same hkF,zoy,c1]
def ziz (f:zai->zal->(List (List Int))->zaf->Option (zai × zal × (List (List Int)))):Prop:=∀a0 a1 a2 a3 r,f a0 a1 a2 a3=some r->∀(q:Pa) (m:M) (vs:List V) (P0:Pa) (P1:Pa) (zP0:Nat) (W A:Pa) (AS:List Pa) (LS:List Nat),vs.map V.weak1=[.ptr P0 0,.ptr P1 0,.agg ((zaf.C a3))]/\m.blk P0=some ((zas.C a0.p_)++[.lit (.int .i64 a0.zdA),.lit (.int .i64 a0.zcI),.lit (.int .i64 a0.e_),.list .self (a0.za4.map zay.C)])/\m.blk P1=some (frC W A a1)/\m.ver P0 4=zP0+a0.za4.length/\HOk m.hp W A AS LS a1.za2 a1.zbm a2/\(P0=P1)=False/\(P1=P0)=False/\m.gl 0=.eptr [(cA zaJ.C zbx)] 0 0->SC Tryz.prog 134 vs q m (fun v m'=>v=.tup []/\m'=(m.fr P0 P1 ((zas.C r.1.p_)++[.lit (.int .i64 r.1.zdA),.lit (.int .i64 r.1.zcI),.lit (.int .i64 r.1.e_),.list .self (r.1.za4.map zay.C)]) (zP0+r.1.za4.length) (frC W A r.2.1) (hpU m.hp W r.2.1.za2 AS r.2.2))/\zcb a1 a2 r.2.1 r.2.2)
theorem zh7 (n:Nat):ziz (zfg n):=by
 rintro a0 a1 a2 a3 r h q m vs P0 P1 zP0 W A AS LS ⟨hv,hmP0,hmP1,hvrP0,hkF,hn0_1,hn1_0,hg0⟩;refine SC.weak ?_;rw [hv];refine SC.apart hmP0 fun hpP0=>?_;refine SC.apart hmP1 fun hpP1=>?_;have hmsP0:=za0 hmP0;have hmsP1:=za0 hmP1
 try simp only [go_sem] at hmP0 hmsP0
 try simp only [go_sem] at hmP1 hmsP1
 have hfs:=zln hmP0 hvrP0 hmP1;refine SC_w Tryz.func134 rfl (fun xs w=>Tryz.call134 xs w) Tryz.ntmps134 (by kernel_rfl) Tryz.results134 ?_;unfold zfg at h;refine zan fun K hK=>?_;simp only [go_sem];apply hK;refine zah ?_;obtain ⟨x2,h7,h⟩:=bind_some h;obtain ⟨f4,f5,f6⟩:=zaw h7;have f8:a3.zax[0]? = some x2:=f6;obtain ⟨x3,h9,h⟩:=bind_some h;refine zaO (tbl:=[0,0,0,4,12,28,0,64,255,511]) (ord:=[(0,0),(1,0),(2,0),(3,0),(4,0),(5,0),(6,0),(7,0),(8,0),(9,0)]) 11 rfl (by kernel_rfl) (by kernel_rfl) fun K hK=>?_;simp only [go_sem,seval,f4,f5,f8];refine zaT (zh8 n a0 a1 a2 x2 a3.Var_ _ h9 _ _ _ P0 P1 zP0 W A AS LS (by simp only [go_sem,↓reduceIte,pz1 hpP0,pz1 hpP1,hkF,hn0_1,hn1_0,hmP0,hvrP0,hmP1,hg0])) rfl ?_;simp only [go_sem,↓reduceIte];apply hK;simp only [zaa];refine zah ?_;refine zah ?_;obtain ⟨x10,h11,h⟩:=bind_some h;refine zao fun K hK=>?_;simp only [go_sem,seval];refine SC.by_ (za1 x3.2 _ h11 _ _ _ P0 zP0 (by simp only [go_sem,↓reduceIte])) ?_;simp only [go_sem,Nat.reduceAdd];apply hK;refine zbn x10 (fun c12=>?_) (fun c12=>?_)
 ·replace h:=zaA c12 h;refine zau ?_
  try simp only [zat]
  obtain rfl:=zag h;refine ⟨by simp,?_⟩;simp only [go_sem,zam,zak,zbK hpP0,zeo hmP1,HOk.same hkF,c12]
 ·replace h:=zaB c12 h;refine zav ?_
  try simp only [zaa]
  refine zah ?_;obtain ⟨x13,h18,h⟩:=bind_some h;obtain ⟨f15,f16,f17⟩:=zaw h18;have f19:a3.zax[1]? = some x13:=f17;obtain ⟨x14,h20,h⟩:=bind_some h;refine zao fun K hK=>?_;simp only [go_sem,seval,Int.reduceToNat,pz1 hpP0,c12,f15,f16,f19];refine SC.by_ (zbI n x3.2 a1 a2 x13 _ h20 _ _ _ P0 P1 zP0 W A AS LS (by simp only [go_sem,↓reduceIte,pz1 hpP1,hkF,hn0_1,hn1_0,hmP1,hg0])) ?_;simp only [go_sem,seval];apply hK;refine zah ?_;obtain ⟨x21,h22,h⟩:=bind_some h;refine zao fun K hK=>?_;simp only [go_sem,seval];refine SC.by_ (za1 x14.2 _ h22 _ _ _ P0 zP0 (by simp only [go_sem,↓reduceIte])) ?_;simp only [go_sem,seval];apply hK;refine zbn (!x21) (fun c23=>?_) (fun c23=>?_)
  ·replace h:=zaA c23 h;obtain ⟨x24,h34,h⟩:=bind_some h;obtain ⟨f31,f32,f33⟩:=zaw h34;obtain ⟨w35,d36⟩:=zfD (f:=(cRef AS LS)) f33;obtain ⟨x25,h40,h⟩:=bind_some h;obtain ⟨f37,f38,f39⟩:=zaw h40;have hx_a_26:=f39;obtain ⟨a_26,d41,d42,ex_a_26,nw_a_26,na_a_26⟩:=HOk.get hkF f37 f39;obtain ⟨x27,h46,h⟩:=bind_some h;obtain ⟨f43,f44,f45⟩:=zaw h46;obtain ⟨w47,d48⟩:=zfD (f:=cU32) f45;have f28:x3.1.toNat+1<=x25.length:=by omega
   have kp29:zcb a1 a2 a1 (a2.set x24.toNat (x25.set x3.1.toNat (IntKind.u32.wrap x14.1))):=zcb.setA zcb.refl hx_a_26 List.length_set;have hk30:HOk (hpU m.hp W a1.za2 AS (a2.set x24.toNat (x25.set x3.1.toNat (IntKind.u32.wrap x14.1)))) W A AS LS a1.za2 a1.zbm (a2.set x24.toNat (x25.set x3.1.toNat (IntKind.u32.wrap x14.1))):=HOk.upk hkF kp29;refine zaO (tbl:=[0,1,3,7,0,16,63,127,0,0,512,2047,4095]) (ord:=[(0,0),(1,0),(2,0),(3,0),(4,0),(5,0),(6,0),(7,0),(8,0),(9,0),(10,0),(11,0),(12,0)]) 37 rfl (by kernel_rfl) (by kernel_rfl) fun K hK=>?_;simp only [go_sem,seval,zfK,pz1 hpP0,pz1 hpP1,hkF.a,hn1_0,c23,f31,f32,d36,d41,d42,f43,f44,f28,(HOk.setA hkF ex_a_26),hmP1];apply hK;simp only [];obtain rfl:=zag h;refine ⟨by simp,?_⟩;simp only [go_sem,zam,zak,zcx,zbK hpP0,zeo hmP1,kp29]
  ·replace h:=zaB c23 h;refine zav ?_;obtain rfl:=zag h;refine ⟨by simp,?_⟩;simp only [go_sem,zam,zak,zbK hpP0,zeo hmP1,HOk.same hkF,c23]
end Go.Proofs.YtldnmmnnohnpkaaGreatDoor.Abs
