/- Lemmas of ours. -/
import Derived.Test.YtncembphlfbgoaaGreatDoorIFFacts
import Derived.Test.YtncembphlfbgoaaGreatDoorIFVs
namespace Go.Proofs.YtncembphlfbgoaaGreatDoor.Abs
open Go.RowKit Tryz
open IntKind (i64 u32 u64 u8)
set_option linter.unusedVariables false
set_option maxRecDepth 10000
def eG (a:aK) (h:List (List Int)) (b:aK) (k:List (List Int)):Prop:=b.f_=a.f_/\b.cK=a.cK/\b.cC.length=a.cC.length/\k.map List.length=h.map List.length
@[go_sem] theorem eG.refl {a:aK} {h:List (List Int)}:eG a h a h:=⟨rfl,rfl,rfl,rfl⟩
theorem eG.trans {a b c:aK} {h k l:List (List Int)} (x:eG a h b k) (y:eG b k c l):eG a h c l:=⟨y.1.trans x.1,y.2.1.trans x.2.1,y.2.2.1.trans x.2.2.1,y.2.2.2.trans x.2.2.2⟩
theorem eG.setW {a b:aK} {h k:List (List Int)} (x:eG a h b k) {n:Nat} {v:Int}:eG a h { b with cC:=b.cC.set n v } k:=⟨x.1,x.2.1,by rw [HL];exact x.2.2.1,x.2.2.2⟩
theorem eG.setA {a b:aK} {h k:List (List Int)} (x:eG a h b k) {n:Nat} {l l':List Int} (hl:k[n]? = some l) (he:l'.length=l.length):eG a h b (k.set n l'):=⟨x.1,x.2.1,x.2.2.1,(Kq hl he).trans x.2.2.2⟩
theorem eG.res {a b:aK} {h k:List (List Int)} (x:eG a h b k) {v:Int}:eG a h { b with qH:=v } k:=x
theorem nK.upk {h:Hp} {W A:Pa} {AS:List Pa} {LS:List Nat} {a b:aK} {hs hs':List (List Int)} (k:nK h W A AS LS a.cC a.cK hs) (x:eG a hs b hs'):nK (sN h W b.cC AS hs') W A AS LS b.cC b.cK hs':=by rw [x.2.1];exact k.up x.2.2.2
def HB (f:aY->T_interp_Args->Option Bool):Prop:=∀a0 a1 r,f a0 a1=some r->∀(q:Pa) (m:M) (vs:List V),vs.map V.weak1=[.agg ((aY.C a0)),.agg ((T_interp_Args.C a1))]->SC prog 23 vs q m (fun v m'=>v=.lit (.bool r)/\m'=m)
theorem GX (n:Nat):HB (uG n):=by
 intro a0 a1 r h q m vs hv;refine SC.wv hv (dZ func23 call23 ntmps23 results23 ?_);unfold uG at h;refine aM ?_;simp only [go_sem,seval];refine aM ?_;simp only [go_sem,seval];refine aF (aF ?_);obtain ⟨⟨f3,f4⟩,h⟩:=bS h;refine aN fun K hK=>?_;simp only [go_sem,seval,f3,f4];apply hK;refine bN ?_;obtain ⟨y9,hy9,h⟩:=aA h;refine kN (fun c E' m'=>∃v6 v7 v8,pC a0 a1 c v6 v7 v8=some y9/\E' 3=.ptr (1::q) 0/\E' 5=.lit (.int .i64 v6)/\E' 6=.lit (.int .i64 v7)/\E' 13=.list .none ((a0.bB.take a0.bD.toNat).map aZ.C)/\E' 14=.lit (.int .i64 ((a0.bB.take a0.bD.toNat).length:Int))/\E' 15=.lit (.int .i64 v8)/\m'.blk (1::q)=some ((T_interp_Args.C a1))/\m'.gl=m.gl/\m.back q m'=m) n ⟨0,0,0,hy9,?_⟩ ?_
 ·simp only [go_sem,seval,aO,aJ]
 rintro i5 c10 E11 m12 ⟨v6,v7,v8,hy9,e13⟩ _
 rcases c10 with _ | c10
 ·cases hy9
 rw [pC] at hy9;refine aM ?_;simp only [go_sem,e13];refine aF (bJ hy9 (fun c14 hy9=>?_) (fun c14 hy9=>?_))
 ·refine aV ?_
  refine aF ?_;obtain ⟨y15,hy15,hy9⟩:=aA hy9;refine gN 29 (fun E' m'=>∃(y15a:(Int × Int)),y15=.inl y15a/\E' 3=.ptr (1::q) 0/\E' 5=.lit (.int .i64 y15a.1)/\E' 6=.lit (.int .i64 y15a.2)/\E' 13=.list .none ((a0.bB.take a0.bD.toNat).map aZ.C)/\E' 14=.lit (.int .i64 ((a0.bB.take a0.bD.toNat).length:Int))/\E' 15=.lit (.int .i64 v8)/\m'.blk (1::q)=some ((T_interp_Args.C a1))/\m'.gl=m.gl/\m.back q m'=m) ?_ ?_
  ·refine bN (aF ?_);obtain ⟨x16,h21,hy15⟩:=aA hy15;obtain ⟨f18,f19,f20⟩:=aX h21;refine aN fun K hK=>?_;simp only [go_sem,seval,f18,f19,f20,e13];apply hK;refine aF (aM ?_);simp only [go_sem,seval];refine bJ hy15 (fun c22 hy15=>?_) (fun c22 hy15=>?_)
   ·refine aF (aF ?_);obtain ⟨y23,hy23,hy15⟩:=aA hy15;refine gN 24 (fun E' m'=>E' 3=.ptr (1::q) 0/\E' 5=.lit (.int .i64 v6)/\E' 6=.lit (.int .i64 v7)/\E' 13=.list .none ((a0.bB.take a0.bD.toNat).map aZ.C)/\E' 14=.lit (.int .i64 ((a0.bB.take a0.bD.toNat).length:Int))/\E' 15=.lit (.int .i64 v8)/\E' 37=.lit (.bool y23)/\m'.blk (1::q)=some ((T_interp_Args.C a1))/\m'.gl=m.gl/\m.back q m'=m) ?_ ?_
    ·rcases dH hy23 with ⟨c24,hy23⟩ | ⟨c24,hy23⟩
     ·refine dR (o0 [0,1,2,3,4,5,6,7,8,9,10,11,12,13,14,15]) 24 fun K hK=>?_;simp only [go_sem,seval,c22,c24,e13];apply hK;simp only [aL];obtain rfl:=bV hy23;refine ⟨by decide,?_⟩;simp only [go_sem,seval,aO,e13]
     ·obtain ⟨x25,h29,hy23⟩:=aA hy23;obtain ⟨f26,f27,f28⟩:=aX h29;refine dR (o0 [0,1,2,3,4,5,6,7,8,9,10,11,12,13,14,15]) 24 fun K hK=>?_;simp only [go_sem,seval,c22,c24,f26,f27,f28,e13];apply hK;simp only [aL];obtain rfl:=bV hy23;refine ⟨by decide,?_⟩;simp only [go_sem,seval,aO,e13]
    ·intro E30 m31 e32 _;refine bJ hy15 (fun c33 hy15=>?_) (fun c33 hy15=>?_)
     ·refine aM ?_;simp only [go_sem,seval];refine aQ ?_
      try simp only [aU,bK]
      obtain rfl:=bV hy15;simp only [DX] at hy9;obtain rfl:=bV hy9;simp only [DX] at h;cases h;refine ⟨by simp,?_⟩;simp only [go_sem,seval,e32]
     ·refine aV ?_
      refine aM ?_;simp only [go_sem,seval,e32];refine dQ ?_
      try simp only [bZ,bR,↓reduceIte,aL]
      obtain rfl:=bV hy15;refine ⟨by decide,(v6,(i64.wrap (v7+1))),rfl,?_⟩;simp only [go_sem,seval,e32]
   ·refine aV ?_
    refine aF (aF ?_);obtain ⟨y34,hy34,hy15⟩:=aA hy15;refine gN 26 (fun E' m'=>E' 3=.ptr (1::q) 0/\E' 5=.lit (.int .i64 v6)/\E' 6=.lit (.int .i64 v7)/\E' 13=.list .none ((a0.bB.take a0.bD.toNat).map aZ.C)/\E' 14=.lit (.int .i64 ((a0.bB.take a0.bD.toNat).length:Int))/\E' 15=.lit (.int .i64 v8)/\E' 57=.lit (.bool y34)/\m'.blk (1::q)=some ((T_interp_Args.C a1))/\m'.gl=m.gl/\m.back q m'=m) ?_ ?_
    ·rcases dH hy34 with ⟨c35,hy34⟩ | ⟨c35,hy34⟩
     ·refine aN fun K hK=>?_;simp only [go_sem,seval,c22,c35,e13];apply hK;obtain rfl:=bV hy34;refine ⟨by decide,?_⟩;simp only [go_sem,seval,aO,e13]
     ·
      rcases dH hy34 with ⟨c36,hy34⟩ | ⟨c36,hy34⟩
      ·obtain ⟨x37,h41,hy34⟩:=aA hy34;obtain ⟨f38,f39,f40⟩:=aX h41;refine aN fun K hK=>?_;simp only [go_sem,seval,c22,c35,c36,f38,f39,f40,e13];apply hK;obtain rfl:=bV hy34;refine ⟨by decide,?_⟩;simp only [go_sem,seval,aO,e13]
      ·refine aN fun K hK=>?_;simp only [go_sem,seval,c22,c35,c36,e13];apply hK;obtain rfl:=bV hy34;refine ⟨by decide,?_⟩;simp only [go_sem,seval,aO,e13]
    ·intro E42 m43 e44 _;refine bJ hy15 (fun c45 hy15=>?_) (fun c45 hy15=>?_)
     ·refine aM ?_;simp only [go_sem,seval];refine aQ ?_
      try simp only [aU,bK]
      obtain rfl:=bV hy15;simp only [DX] at hy9;obtain rfl:=bV hy9;simp only [DX] at h;cases h;refine ⟨by simp,?_⟩;simp only [go_sem,seval,e44]
     ·refine aV ?_
      refine fB fun K hK=>?_;simp only [go_sem,seval,e44];apply hK;simp only [aL,aS];obtain rfl:=bV hy15;refine ⟨by decide,((i64.wrap (v6+1)),v7),rfl,?_⟩;simp only [go_sem,seval,e44]
  ·rintro E46 m47 ⟨y15a,rfl,e48⟩ _;simp only [FW] at hy9;refine aN fun K hK=>?_;simp only [go_sem,seval,e48];apply hK;refine ⟨c10,xH _,y15a.1,y15a.2,(i64.wrap (v8+1)),hy9,?_⟩;simp only [go_sem,seval,e48]
 ·refine dQ ?_
  try simp only [bZ,bR,↓reduceIte,aL]
  obtain rfl:=bV hy9;simp only [FW] at h;refine aF ?_;obtain ⟨y49,hy49,h⟩:=aA h;refine gN 26 (fun E' m'=>E' 4=.lit (.bool y49)/\m'.gl=m.gl/\m.back q m'=m) ?_ ?_
  ·rcases dH hy49 with ⟨c50,hy49⟩ | ⟨c50,hy49⟩
   ·refine aN fun K hK=>?_;simp only [go_sem,seval,c14,c50,e13];apply hK;obtain rfl:=bV hy49;refine ⟨by decide,?_⟩;simp only [go_sem,seval,e13]
   ·refine aN fun K hK=>?_;simp only [go_sem,seval,c14,c50,e13];apply hK;obtain rfl:=bV hy49;refine ⟨by decide,?_⟩;simp only [go_sem,seval,e13]
  ·intro E51 m52 e53 _;refine aQ ?_;cases h;refine ⟨by simp,?_⟩;simp only [go_sem,e53]
def Bd (f:aE->Option Bool):Prop:=∀a0 r,f a0=some r->∀(q:Pa) (m:M) (vs:List V) (P0:Pa) (zP0:Nat),vs.map V.weak1=[.ptr P0 0]/\m.blk P0=some ((aR.C a0.p_)++[.lit (.int .i64 a0.dP),.lit (.int .i64 a0.fP),.lit (.int .i64 a0.e_),.list .self (a0.bT.map bA.C)])/\m.ver P0 4=zP0+a0.bT.length->SC prog 75 vs q m (fun v m'=>v=.lit (.bool r)/\m'=m)
theorem cY:Bd (bE):=by
 rintro a0 r h q m vs P0 zP0 ⟨hv,hmP0,hvrP0⟩;refine SC.wv hv ?_;refine SC.apart hmP0 fun u0=>?_
 try simp only [go_sem] at hmP0
 refine dZ func75 call75 ntmps75 results75 ?_;unfold bE at h;refine aM ?_;simp only [go_sem];refine aF ?_;obtain ⟨y1,hy1,h⟩:=aA h;refine gN 14 (fun E' m'=>E' 2=.lit (.bool y1)/\m'.blk P0=some ((aR.C a0.p_)++[.lit (.int .i64 a0.dP),.lit (.int .i64 a0.fP),.lit (.int .i64 a0.e_),.list .self (a0.bT.map bA.C)])/\m'.ver P0 4=zP0+a0.bT.length/\m'.gl=m.gl/\m.back q m'=m) ?_ ?_
 ·rcases dH hy1 with ⟨c2,hy1⟩ | ⟨c2,hy1⟩
  ·refine aN fun K hK=>?_;simp only [go_sem,seval,c2,hmP0];apply hK;obtain rfl:=bV hy1;refine ⟨by decide,?_⟩;simp only [go_sem,seval,aJ,hmP0,hvrP0]
  ·refine aN fun K hK=>?_;simp only [go_sem,seval,c2,hmP0];apply hK;obtain rfl:=bV hy1;refine ⟨by decide,?_⟩;simp only [go_sem,seval,aJ,hmP0,hvrP0]
 ·intro E3 m4 e5 _;refine aQ ?_;cases h;refine ⟨by simp,?_⟩;simp only [go_sem,e5]
def BT (f:aE->Option aE):Prop:=∀a0 r,f a0=some r->∀(q:Pa) (m:M) (vs:List V) (P0:Pa) (zP0:Nat),vs.map V.weak1=[.ptr P0 0]/\m.blk P0=some ((aR.C a0.p_)++[.lit (.int .i64 a0.dP),.lit (.int .i64 a0.fP),.lit (.int .i64 a0.e_),.list .self (a0.bT.map bA.C)])/\m.ver P0 4=zP0+a0.bT.length->SC prog 76 vs q m (fun v m'=>v=.tup []/\m'=(m.setv P0 4 ((aR.C r.p_)++[.lit (.int .i64 r.dP),.lit (.int .i64 r.fP),.lit (.int .i64 r.e_),.list .self (r.bT.map bA.C)]) (zP0+r.bT.length)))
theorem uA:BT (fJ):=by
 rintro a0 r h q m vs P0 zP0 ⟨hv,hmP0,hvrP0⟩;refine SC.wv hv ?_;refine SC.ap hmP0 fun u0 l0=>?_
 try simp only [go_sem] at hmP0 l0
 refine dZ func76 call76 ntmps76 results76 ?_;unfold fJ at h;refine aF (aM ?_);simp only [go_sem,seval,hmP0];refine bJ h (fun c1 h=>?_) (fun c1 h=>?_)
 ·refine aM ?_;simp only [go_sem,seval,c1,hmP0];refine aQ ?_
  try simp only [aU]
  cases h;refine ⟨by simp,?_⟩;simp only [go_sem,aJ,bF u0,lB hvrP0]
 ·refine aV ?_
  refine fB fun K hK=>?_;simp only [go_sem,seval,c1,hmP0];apply hK;simp only [];cases h;refine ⟨by simp,?_⟩;simp only [go_sem,aJ,bF u0,lB hvrP0]
def CN (f:aE->Int->Int->Int->Option aE):Prop:=∀a0 a1 a2 a3 r,f a0 a1 a2 a3=some r->∀(q:Pa) (m:M) (vs:List V) (P0:Pa) (zP0:Nat),vs.map V.weak1=[.ptr P0 0,.lit (.int .i64 a1),.lit (.int .u32 a2),.lit (.int .u32 a3)]/\m.blk P0=some ((aR.C a0.p_)++[.lit (.int .i64 a0.dP),.lit (.int .i64 a0.fP),.lit (.int .i64 a0.e_),.list .self (a0.bT.map bA.C)])/\m.ver P0 4=zP0+a0.bT.length->SC prog 167 vs q m (fun v m'=>v=.tup []/\m'=(m.setv P0 4 ((aR.C r.p_)++[.lit (.int .i64 r.dP),.lit (.int .i64 r.fP),.lit (.int .i64 r.e_),.list .self (r.bT.map bA.C)]) (zP0+r.bT.length)))
theorem jT:CN (dF):=by
 rintro a0 a1 a2 a3 r h q m vs P0 zP0 ⟨hv,hmP0,hvrP0⟩;refine SC.wv hv ?_;refine SC.ap hmP0 fun u0 l0=>?_
 try simp only [go_sem] at hmP0 l0
 refine dZ func167 call167 ntmps167 results167 ?_;unfold dF at h;obtain ⟨f1,h⟩:=bS h;have f2:a0.bT.length+1<=1073741824:=by first | omega | (simp only [nL,jK,lD] at f1 ⊢;omega)
 have f3:a0.bT.length<=1073741823:=by first | omega | (simp only [nL,jK,lD] at f1 ⊢;omega)
 refine fB fun K hK=>?_;simp only [go_sem,seval,f2,hmP0,hvrP0];apply hK;simp only [];cases h;refine ⟨by simp,?_⟩;simp only [go_sem,cH,aJ,bF u0,Mn u0,PZ hvrP0,nL,jK,lD,JD,←Nat.add_assoc]
def GW (f:cR->(List Int)->Option (Int × Bool)):Prop:=∀a0 a1 r,f a0 a1=some r->∀(q:Pa) (m:M) (vs:List V),vs.map V.weak1=[.lit (.string (bs a0)),.list .none (a1.map (cI .u64))]->SC prog 165 vs q m (fun v m'=>v=.tup [.lit (.int .u64 r.1),.lit (.bool r.2)]/\m'=m)
theorem Ge:GW (uW):=by
 intro a0 a1 r h q m vs hv;refine SC.wv hv (dZ func165 call165 ntmps165 results165 ?_);unfold uW at h;refine aM ?_;simp only [go_sem,seval];refine aF (aM ?_);simp only [go_sem,seval];refine bN (aM ?_);simp only [go_sem,seval];refine bJ h (fun c1 h=>?_) (fun c1 h=>?_)
 ·refine aF (aF ?_);obtain ⟨x2,h6,h⟩:=aA h;obtain ⟨f3,f4,f5⟩:=aX h6;have f7:a1[0]? = some x2:=f5;refine aN fun K hK=>?_;simp only [go_sem,seval,c1,f3,f4,f7];apply hK;refine bJ h (fun c8 h=>?_) (fun c8 h=>?_)
  ·refine aF ?_;obtain ⟨x9,h13,h⟩:=aA h;obtain ⟨f10,f11,f12⟩:=aX h13;have f14:a1[1]? = some x9:=f12;refine aN fun K hK=>?_;simp only [go_sem,seval,c8,f10,f11,f14];apply hK;refine aQ ?_
   try simp only [aU,bK]
   cases h;refine ⟨by simp,?_⟩;simp only [go_sem,seval,aJ]
  ·refine aV ?_
   refine aF ?_;obtain ⟨x15,h19,h⟩:=aA h;obtain ⟨f16,f17,f18⟩:=aX h19;have f20:a1[2]? = some x15:=f18;refine aN fun K hK=>?_;simp only [go_sem,seval,c8,f16,f17,f20];apply hK;refine aQ ?_
   try simp only [aU,bK]
   cases h;refine ⟨by simp,?_⟩;simp only [go_sem,seval,aJ]
 ·refine aM ?_;simp only [go_sem,seval,c1];refine bJ h (fun c21 h=>?_) (fun c21 h=>?_)
  ·refine aF ?_;obtain ⟨x22,h26,h⟩:=aA h;obtain ⟨f23,f24,f25⟩:=aX h26;have f27:a1[0]? = some x22:=f25;refine aN fun K hK=>?_;simp only [go_sem,seval,c21,f23,f24,f27];apply hK;refine aQ ?_
   try simp only [aU,bK]
   cases h;refine ⟨by simp,?_⟩;simp only [go_sem,seval,aJ]
  ·refine aM ?_;simp only [go_sem,seval,c21];refine bJ h (fun c28 h=>?_) (fun c28 h=>?_)
   ·refine aF ?_;obtain ⟨x29,h33,h⟩:=aA h;obtain ⟨f30,f31,f32⟩:=aX h33;have f34:a1[0]? = some x29:=f32;refine aN fun K hK=>?_;simp only [go_sem,seval,c28,f30,f31,f34];apply hK;refine aQ ?_
    try simp only [aU,bK]
    cases h;refine ⟨by simp,?_⟩;simp only [go_sem,seval,aJ]
   ·refine aM ?_;simp only [go_sem,seval,c28];refine bJ h (fun c35 h=>?_) (fun c35 h=>?_)
    ·refine aF ?_;obtain ⟨x36,h40,h⟩:=aA h;obtain ⟨f37,f38,f39⟩:=aX h40;have f41:a1[0]? = some x36:=f39;refine aN fun K hK=>?_;simp only [go_sem,seval,c35,f37,f38,f41,(by decide:(0:Int)<=32)];apply hK;refine aQ ?_
     try simp only [aU,bK]
     cases h;refine ⟨by simp,?_⟩;simp only [go_sem,seval,aJ]
    ·refine aM ?_;simp only [go_sem,seval,c35];refine bJ h (fun c42 h=>?_) (fun c42 h=>?_)
     ·refine aF ?_;obtain ⟨x43,h48,h⟩:=aA h;obtain ⟨f45,f46,f47⟩:=aX h48;have f49:a1[0]? = some x43:=f47;obtain ⟨x44,h53,h⟩:=aA h;obtain ⟨f50,f51,f52⟩:=aX h53;have f54:a1[1]? = some x44:=f52;refine dR (o0 [0,1,2,3,4,5,6,7,8]) 22 fun K hK=>?_;simp only [go_sem,seval,c42,f45,f46,f49,f50,f51,f54];apply hK;refine aQ ?_
      try simp only [aU,bK]
      cases h;refine ⟨by simp,?_⟩;simp only [go_sem,seval,aJ]
     ·refine aV ?_
      try simp only [aL,aS]
      refine aM ?_;simp only [go_sem,seval,c42];refine aQ ?_;cases h;refine ⟨by simp,?_⟩;simp only [go_sem,seval,aJ]
def AJ (f:Int->Int->Option Int):Prop:=∀a0 a1 r,f a0 a1=some r->∀(q:Pa) (m:M) (vs:List V),vs.map V.weak1=[.lit (.int .u64 a0),.lit (.int .i64 a1)]->SC prog 214 vs q m (fun v m'=>v=.lit (.int .u64 r)/\m'=m)
theorem zU:AJ (mA):=by
 intro a0 a1 r h q m vs hv;refine SC.wv hv (dZ func214 call214 ntmps214 results214 ?_);unfold mA at h;refine aM ?_;simp only [go_sem];refine aM ?_;simp only [go_sem,seval];refine aF ?_;obtain ⟨f1,h⟩:=bS h;obtain ⟨f2,h⟩:=bS h;refine aN fun K hK=>?_;simp only [go_sem,seval,f1,f2];apply hK;refine aQ ?_;cases h;refine ⟨by simp,?_⟩;simp only [go_sem,seval,aJ]
def GV (f:Bool->Option Int):Prop:=∀a0 r,f a0=some r->∀(q:Pa) (m:M) (vs:List V),vs.map V.weak1=[.lit (.bool a0)]->SC prog 215 vs q m (fun v m'=>v=.lit (.int .u64 r)/\m'=m)
theorem Cw:GV (uV):=by
 intro a0 r h q m vs hv;refine SC.wv hv (dZ func215 call215 ntmps215 results215 ?_);unfold uV at h;refine aM ?_;simp only [go_sem];refine aF (aM ?_);simp only [go_sem,seval];refine bJ h (fun c1 h=>?_) (fun c1 h=>?_)
 ·refine aM ?_;simp only [go_sem,seval,c1];refine aQ ?_
  try simp only [aU]
  cases h;refine ⟨by simp,?_⟩;simp only [go_sem,seval,aJ]
 ·refine aV ?_
  refine aM ?_;simp only [go_sem,seval,c1];refine aQ ?_;cases h;refine ⟨by simp,?_⟩;simp only [go_sem,seval,aJ]
def HA (f:cR->Int->Int->Option Int):Prop:=∀a0 a1 a2 r,f a0 a1 a2=some r->∀(q:Pa) (m:M) (vs:List V),vs.map V.weak1=[.lit (.string (bs a0)),.lit (.int .u64 a1),.lit (.int .u64 a2)]->SC prog 195 vs q m (fun v m'=>v=.lit (.int .u64 r)/\m'=m)
theorem Dv:HA (uE):=by
 intro a0 a1 a2 r h q m vs hv;refine SC.wv hv (dZ func195 call195 ntmps195 results195 ?_);unfold uE at h;refine aM ?_;simp only [go_sem];refine aF (aM ?_);simp only [go_sem,seval];refine bN (aM ?_);simp only [go_sem,seval];refine bJ h (fun c1 h=>?_) (fun c1 h=>?_)
 ·refine aM ?_;simp only [go_sem,seval,c1];refine aQ ?_
  try simp only [aU,bK]
  cases h;refine ⟨by simp,?_⟩;simp only [go_sem,seval,aJ]
 ·refine aM ?_;simp only [go_sem,seval,c1];refine bJ h (fun c2 h=>?_) (fun c2 h=>?_)
  ·refine aM ?_;simp only [go_sem,seval,c2];refine aQ ?_
   try simp only [aU,bK]
   cases h;refine ⟨by simp,?_⟩;simp only [go_sem,seval,aJ]
  ·refine aM ?_;simp only [go_sem,seval,c2];refine bJ h (fun c3 h=>?_) (fun c3 h=>?_)
   ·refine aM ?_;simp only [go_sem,seval,c3];refine aQ ?_
    try simp only [aU,bK]
    cases h;refine ⟨by simp,?_⟩;simp only [go_sem,seval,aJ]
   ·refine aM ?_;simp only [go_sem,seval,c3];refine bJ h (fun c4 h=>?_) (fun c4 h=>?_)
    ·refine aM ?_;simp only [go_sem,seval,c4];refine aQ ?_
     try simp only [aU,bK]
     cases h;refine ⟨by simp,?_⟩;simp only [go_sem,seval,aJ]
    ·refine aM ?_;simp only [go_sem,seval,c4];refine bJ h (fun c5 h=>?_) (fun c5 h=>?_)
     ·refine aM ?_;simp only [go_sem,seval,c5];refine aQ ?_
      try simp only [aU,bK]
      cases h;refine ⟨by simp,?_⟩;simp only [go_sem,seval,aJ]
     ·refine aM ?_;simp only [go_sem,seval,c5];refine bJ h (fun c6 h=>?_) (fun c6 h=>?_)
      ·refine aF ?_;obtain ⟨f7,h⟩:=bS h;refine aN fun K hK=>?_;simp only [go_sem,seval,c6,f7];apply hK;refine aQ ?_
       try simp only [aU,bK]
       cases h;refine ⟨by simp,?_⟩;simp only [go_sem,seval,aJ]
      ·refine aM ?_;simp only [go_sem,seval,c6];refine bJ h (fun c8 h=>?_) (fun c8 h=>?_)
       ·refine aF ?_;obtain ⟨f9,h⟩:=bS h;refine aN fun K hK=>?_;simp only [go_sem,seval,c8,f9];apply hK;refine aQ ?_
        try simp only [aU,bK]
        cases h;refine ⟨by simp,?_⟩;simp only [go_sem,seval,aJ]
       ·refine aM ?_;simp only [go_sem,seval,c8];refine bJ h (fun c10 h=>?_) (fun c10 h=>?_)
        ·refine aF ?_;obtain ⟨x11,h12,h⟩:=aA h;refine aN fun K hK=>?_;simp only [go_sem,seval,c10];refine SC.by_ (zU a1 (i64.wrap a2) _ h12 _ _ _ (by simp only [go_sem])) ?_;simp only [go_sem,seval];apply hK;refine aQ ?_
         try simp only [aU,bK]
         cases h;refine ⟨by simp,?_⟩;simp only [go_sem,seval,aJ]
        ·refine aM ?_;simp only [go_sem,seval,c10];refine bJ h (fun c13 h=>?_) (fun c13 h=>?_)
         ·refine aF ?_;obtain ⟨x14,h15,h⟩:=aA h;refine aN fun K hK=>?_;simp only [go_sem,seval,c13];refine SC.by_ (Cw (a1 == a2) _ h15 _ _ _ (by simp only [go_sem])) ?_;simp only [go_sem,seval];apply hK;refine aQ ?_
          try simp only [aU,bK]
          cases h;refine ⟨by simp,?_⟩;simp only [go_sem,seval,aJ]
         ·refine aM ?_;simp only [go_sem,seval,c13];refine bJ h (fun c16 h=>?_) (fun c16 h=>?_)
          ·refine aF ?_;obtain ⟨x17,h18,h⟩:=aA h;refine aN fun K hK=>?_;simp only [go_sem,seval,c16];refine SC.by_ (Cw (decide (a1<a2)) _ h18 _ _ _ (by simp only [go_sem])) ?_;simp only [go_sem,seval];apply hK;refine aQ ?_
           try simp only [aU,bK]
           cases h;refine ⟨by simp,?_⟩;simp only [go_sem,seval,aJ]
          ·refine aM ?_;simp only [go_sem,seval,c16];refine bJ h (fun c19 h=>?_) (fun c19 h=>?_)
           ·refine aM ?_;simp only [go_sem,seval,c19];refine aQ ?_
            try simp only [aU,bK]
            cases h;refine ⟨by simp,?_⟩;simp only [go_sem,seval,aJ]
           ·refine aV ?_
            try simp only [aL,aS]
            refine aM ?_;simp only [go_sem,seval,c19];refine aQ ?_;cases h;refine ⟨by simp,?_⟩;simp only [go_sem,seval,aJ]
def KC (f:cR->Option Int):Prop:=∀a0 r,f a0=some r->∀(q:Pa) (m:M) (vs:List V),vs.map V.weak1=[.lit (.string (bs a0))]/\m.gl 3=.eptr [(cA bW.C dY)] 0 0->SC prog 196 vs q m (fun v m'=>v=.lit (.int .i64 r)/\m'=m)
theorem xP (n:Nat):KC (uF n):=by
 rintro a0 r h q m vs ⟨hv,hg3⟩;refine SC.wv hv (dZ func196 call196 ntmps196 results196 ?_);unfold uF at h;refine aM ?_;simp only [go_sem];refine aF (aM ?_);simp only [go_sem,seval,hg3];refine bN ?_;obtain ⟨y3,hy3,h⟩:=aA h;refine kN (fun c E' m'=>∃v2,sM a0 c v2=some y3/\E' 0=.lit (.string (bs a0))/\E' 5=.agg ((cA bW.C dY))/\E' 6=.lit (.int .i64 v2)/\m'.gl=m.gl/\m.back q m'=m) n ⟨0,hy3,?_⟩ ?_
 ·simp only [go_sem,seval,aJ]
 rintro i1 c4 E5 m6 ⟨v2,hy3,e7⟩ _
 rcases c4 with _ | c4
 ·cases hy3
 rw [sM] at hy3;refine aM ?_;simp only [go_sem,e7];refine aF (bJ hy3 (fun c8 hy3=>?_) (fun c8 hy3=>?_))
 ·refine aV ?_
  refine aF (bN (aF ?_));obtain ⟨x9,h14,hy3⟩:=aA hy3;obtain ⟨f11,f12,f13⟩:=aX h14;have f15:v2<15:=f12;obtain ⟨w16,d17⟩:=Co (f:=bW.C) (s:=2) (fun _ _=>rfl) f13;simp only [go_sem] at d17;refine aN fun K hK=>?_;simp only [go_sem,seval,f11,f15,d17,e7];apply hK;refine aM ?_;simp only [go_sem,seval,e7];refine bJ hy3 (fun c18 hy3=>?_) (fun c18 hy3=>?_)
  ·refine aM ?_;simp only [go_sem,seval,c18];refine aQ ?_
   try simp only [aU,bK]
   obtain rfl:=bV hy3;simp only [DX] at h;cases h;refine ⟨by simp,?_⟩;simp only [go_sem,seval,aO,e7]
  ·refine aV ?_
   try simp only [aL,aS]
   refine aN fun K hK=>?_;simp only [go_sem,seval,c18,e7];apply hK;refine ⟨c4,xH _,(i64.wrap (v2+1)),hy3,?_⟩;simp only [go_sem,seval,aO,e7]
 ·refine dQ ?_
  try simp only [bZ,bR,↓reduceIte,aL]
  obtain rfl:=bV hy3;simp only [FW] at h;refine aM ?_;simp only [go_sem,seval,c8];refine aQ ?_;cases h;refine ⟨by simp,?_⟩;simp only [go_sem,seval,e7]
def Nx (f:Int->Option bH):Prop:=∀a0 r,f a0=some r->∀(q:Pa) (m:M) (vs:List V),vs.map V.weak1=[.lit (.int .u32 a0)]->SC prog 197 vs q m (fun v m'=>v=.agg ((bH.C r))/\m'=m)
theorem BD:Nx (DG):=by
 intro a0 r h q m vs hv;refine SC.wv hv (dZ func197 call197 ntmps197 results197 ?_);unfold DG at h;refine aM ?_;simp only [go_sem];refine aM ?_;simp only [go_sem,seval];refine aQ ?_;cases h;refine ⟨by simp,?_⟩;simp only [go_sem,seval,aO,cM,aJ]
def JK (f:bH->(List Int)->Option Int):Prop:=∀a0 a1 r,f a0 a1=some r->∀(q:Pa) (m:M) (vs:List V),vs.map V.weak1=[.agg ((bH.C a0)),.list .none (a1.map (cI .u32))]->SC prog 216 vs q m (fun v m'=>v=.lit (.int .u32 r)/\m'=m)
theorem IB:JK (Fo):=by
 intro a0 a1 r h q m vs hv;refine SC.wv hv (dZ func216 call216 ntmps216 results216 ?_);unfold Fo at h;refine aM ?_;simp only [go_sem,seval];refine aF (aM ?_);simp only [go_sem,seval];refine bJ h (fun c2 h=>?_) (fun c2 h=>?_)
 ·refine aM ?_;simp only [go_sem,seval,c2];refine aQ ?_
  try simp only [aU]
  cases h;refine ⟨by simp,?_⟩;simp only [go_sem,seval,aO,aJ]
 ·refine aV ?_
  refine aF (aM ?_);simp only [go_sem,seval,c2];refine bJ h (fun c3 h=>?_) (fun c3 h=>?_)
  ·refine aF ?_;obtain ⟨x4,h8,h⟩:=aA h;obtain ⟨f5,f6,f7⟩:=aX h8;refine aN fun K hK=>?_;simp only [go_sem,seval,c3,f5,f6,f7];apply hK;refine aQ ?_
   try simp only [aU]
   cases h;refine ⟨by simp,?_⟩;simp only [go_sem,seval,aO,aJ]
  ·refine aV ?_
   refine aM ?_;simp only [go_sem,seval,c3];refine aQ ?_;cases h;refine ⟨by simp,?_⟩;simp only [go_sem,seval,aO,aJ]
def Iz (f:Bool->Option Int):Prop:=∀a0 r,f a0=some r->∀(q:Pa) (m:M) (vs:List V),vs.map V.weak1=[.lit (.bool a0)]->SC prog 217 vs q m (fun v m'=>v=.lit (.int .u32 r)/\m'=m)
theorem Ak:Iz (vN):=by
 intro a0 r h q m vs hv;refine SC.wv hv (dZ func217 call217 ntmps217 results217 ?_);unfold vN at h;refine aM ?_;simp only [go_sem];refine aF (aM ?_);simp only [go_sem,seval];refine bJ h (fun c1 h=>?_) (fun c1 h=>?_)
 ·refine aM ?_;simp only [go_sem,seval,c1];refine aQ ?_
  try simp only [aU]
  cases h;refine ⟨by simp,?_⟩;simp only [go_sem,seval,aJ]
 ·refine aV ?_
  refine aM ?_;simp only [go_sem,seval,c1];refine aQ ?_;cases h;refine ⟨by simp,?_⟩;simp only [go_sem,seval,aJ]
def Lq (f:Int->Int->Option Int):Prop:=∀a0 a1 r,f a0 a1=some r->∀(q:Pa) (m:M) (vs:List V),vs.map V.weak1=[.lit (.int .i64 a0),.lit (.int .u32 a1)]->SC prog 218 vs q m (fun v m'=>v=.lit (.int .u32 r)/\m'=m)
theorem JJ:Lq (EH):=by
 intro a0 a1 r h q m vs hv;refine SC.wv hv (dZ func218 call218 ntmps218 results218 ?_);unfold EH at h;refine aM ?_;simp only [go_sem];refine aF (aM ?_);simp only [go_sem,seval];refine bJ h (fun c1 h=>?_) (fun c1 h=>?_)
 ·refine aM ?_;simp only [go_sem,seval,c1];refine aQ ?_
  try simp only [aU]
  cases h;refine ⟨by simp,?_⟩;simp only [go_sem,seval,aJ]
 ·refine aV ?_
  refine aM ?_;simp only [go_sem,seval,c1];refine aQ ?_;cases h;refine ⟨by simp,?_⟩;simp only [go_sem,seval,aJ]
def AK (f:Int->Int->Option Int):Prop:=∀a0 a1 r,f a0 a1=some r->∀(q:Pa) (m:M) (vs:List V),vs.map V.weak1=[.lit (.int .u32 a0),.lit (.int .i64 a1)]->SC prog 232 vs q m (fun v m'=>v=.lit (.int .u32 r)/\m'=m)
theorem zV:AK (mB):=by
 intro a0 a1 r h q m vs hv;refine SC.wv hv (dZ func232 call232 ntmps232 results232 ?_);unfold mB at h;refine aM ?_;simp only [go_sem];refine aM ?_;simp only [go_sem,seval];refine aF ?_;obtain ⟨f1,h⟩:=bS h;obtain ⟨f2,h⟩:=bS h;refine aN fun K hK=>?_;simp only [go_sem,seval,f1,f2];apply hK;refine aQ ?_;cases h;refine ⟨by simp,?_⟩;simp only [go_sem,seval,aJ]
def IA (f:Int->Int->Int->Option Int):Prop:=∀a0 a1 a2 r,f a0 a1 a2=some r->∀(q:Pa) (m:M) (vs:List V),vs.map V.weak1=[.lit (.int .i64 a0),.lit (.int .u32 a1),.lit (.int .u32 a2)]->SC prog 230 vs q m (fun v m'=>v=.lit (.int .u32 r)/\m'=m)
theorem Hs:IA (yC):=by
 intro a0 a1 a2 r h q m vs hv;refine SC.wv hv (dZ func230 call230 ntmps230 results230 ?_);unfold yC at h;refine aM ?_;simp only [go_sem];refine aF (aM ?_);simp only [go_sem,seval];refine bN (aM ?_);simp only [go_sem,seval];refine bJ h (fun c1 h=>?_) (fun c1 h=>?_)
 ·refine aM ?_;simp only [go_sem,seval,c1];refine aQ ?_
  try simp only [aU,bK]
  cases h;refine ⟨by simp,?_⟩;simp only [go_sem,seval,aJ]
 ·refine aM ?_;simp only [go_sem,seval,c1];refine bJ h (fun c2 h=>?_) (fun c2 h=>?_)
  ·refine aM ?_;simp only [go_sem,seval,c2];refine aQ ?_
   try simp only [aU,bK]
   cases h;refine ⟨by simp,?_⟩;simp only [go_sem,seval,aJ]
  ·refine aM ?_;simp only [go_sem,seval,c2];refine bJ h (fun c3 h=>?_) (fun c3 h=>?_)
   ·refine aM ?_;simp only [go_sem,seval,c3];refine aQ ?_
    try simp only [aU,bK]
    cases h;refine ⟨by simp,?_⟩;simp only [go_sem,seval,aJ]
   ·refine aM ?_;simp only [go_sem,seval,c3];refine bJ h (fun c4 h=>?_) (fun c4 h=>?_)
    ·refine aF ?_;obtain ⟨f5,h⟩:=bS h;refine aN fun K hK=>?_;simp only [go_sem,seval,c4,f5];apply hK;refine aQ ?_
     try simp only [aU,bK]
     cases h;refine ⟨by simp,?_⟩;simp only [go_sem,seval,aJ]
    ·refine aM ?_;simp only [go_sem,seval,c4];refine bJ h (fun c6 h=>?_) (fun c6 h=>?_)
     ·refine aF ?_;obtain ⟨f7,h⟩:=bS h;refine aN fun K hK=>?_;simp only [go_sem,seval,c6,f7];apply hK;refine aQ ?_
      try simp only [aU,bK]
      cases h;refine ⟨by simp,?_⟩;simp only [go_sem,seval,aJ]
     ·refine aV ?_
      try simp only [aL,aS]
      refine aF ?_;obtain ⟨x8,h9,h⟩:=aA h;refine aN fun K hK=>?_;simp only [go_sem,seval,c6];refine SC.by_ (zV a1 (i64.wrap (vH .u32 a2 31)) _ h9 _ _ _ (by simp only [go_sem])) ?_;simp only [go_sem,seval];apply hK;refine aQ ?_;cases h;refine ⟨by simp,?_⟩;simp only [go_sem,seval,aJ]
def Lp (f:Int->Int->Int->Option (Int × Bool)):Prop:=∀a0 a1 a2 r,f a0 a1 a2=some r->∀(q:Pa) (m:M) (vs:List V),vs.map V.weak1=[.lit (.int .i64 a0),.lit (.int .u32 a1),.lit (.int .u32 a2)]->SC prog 219 vs q m (fun v m'=>v=.tup [.lit (.int .u32 r.1),.lit (.bool r.2)]/\m'=m)
theorem JI:Lp (Db):=by
 intro a0 a1 a2 r h q m vs hv;refine SC.wv hv (dZ func219 call219 ntmps219 results219 ?_);unfold Db at h;refine aM ?_;simp only [go_sem,seval];refine aF (aM ?_);simp only [go_sem,seval];refine bN (aM ?_);simp only [go_sem,seval];refine bJ h (fun c1 h=>?_) (fun c1 h=>?_)
 ·refine aF ?_;obtain ⟨x2,h3,h⟩:=aA h;refine aN fun K hK=>?_;simp only [go_sem,seval,c1];refine SC.by_ (Ak (a1 == a2) _ h3 _ _ _ (by simp only [go_sem])) ?_;simp only [go_sem,seval];apply hK;refine aQ ?_
  try simp only [aU,bK]
  cases h;refine ⟨by simp,?_⟩;simp only [go_sem,seval,aJ]
 ·refine aM ?_;simp only [go_sem,seval,c1];refine bJ h (fun c4 h=>?_) (fun c4 h=>?_)
  ·refine aF ?_;obtain ⟨x5,h6,h⟩:=aA h;refine aN fun K hK=>?_;simp only [go_sem,seval,c4];refine SC.by_ (Ak (decide (a1<a2)) _ h6 _ _ _ (by simp only [go_sem])) ?_;simp only [go_sem,seval];apply hK;refine aQ ?_
   try simp only [aU,bK]
   cases h;refine ⟨by simp,?_⟩;simp only [go_sem,seval,aJ]
  ·refine aM ?_;simp only [go_sem,seval,c4];refine bJ h (fun c7 h=>?_) (fun c7 h=>?_)
   ·refine aM ?_;simp only [go_sem,seval,c7];refine aQ ?_
    try simp only [aU,bK]
    cases h;refine ⟨by simp,?_⟩;simp only [go_sem,seval,aJ]
   ·refine aM ?_;simp only [go_sem,seval,c7];refine bJ h (fun c8 h=>?_) (fun c8 h=>?_)
    ·refine aM ?_;simp only [go_sem,seval,c8];refine aQ ?_
     try simp only [aU,bK]
     cases h;refine ⟨by simp,?_⟩;simp only [go_sem,seval,aJ]
    ·refine aM ?_;simp only [go_sem,seval,c8];refine bJ h (fun c9 h=>?_) (fun c9 h=>?_)
     ·refine aM ?_;simp only [go_sem,seval,c9];refine aQ ?_
      try simp only [aU,bK]
      cases h;refine ⟨by simp,?_⟩;simp only [go_sem,seval,aJ]
     ·refine aF (aM ?_);simp only [go_sem,seval,c9];refine bJ h (fun c10 h=>?_) (fun c10 h=>?_)
      ·refine aV ?_
       refine iB true (by simp only [go_sem,seval,c10]) ?_;simp only [↓reduceIte];refine aF (aM ?_);simp only [go_sem,seval,c10];refine bJ h (fun c11 h=>?_) (fun c11 h=>?_)
       ·refine aM ?_;simp only [go_sem,seval,c11];refine aQ ?_
        try simp only [aU,bK]
        cases h;refine ⟨by simp,?_⟩;simp only [go_sem,seval,aJ]
       ·refine aV ?_
        refine aF (aM ?_);simp only [go_sem,seval,c10,c11];refine iB true (by simp only [go_sem,seval]) ?_;simp only [↓reduceIte];refine aF ?_;obtain ⟨f12,h⟩:=bS h;refine aN fun K hK=>?_;simp only [go_sem,seval,f12];apply hK;refine aQ ?_
        try simp only [aU,bK]
        cases h;refine ⟨by simp,?_⟩;simp only [go_sem,seval,aJ]
      ·refine aN fun K hK=>?_;simp only [go_sem,seval,c10];apply hK;refine bJ h (fun c13 h=>?_) (fun c13 h=>?_)
       ·refine aF (aM ?_);simp only [go_sem,seval,c13];refine bJ h (fun c14 h=>?_) (fun c14 h=>?_)
        ·refine aM ?_;simp only [go_sem,seval,c14];refine aQ ?_
         try simp only [aU,bK]
         cases h;refine ⟨by simp,?_⟩;simp only [go_sem,seval,aJ]
        ·refine aV ?_
         refine aF (aM ?_);simp only [go_sem,seval,c10,c14];refine iB false (by simp only [go_sem,seval]) ?_;simp only [↓reduceIte,xX];refine aV ?_
         refine aF ?_;obtain ⟨f15,h⟩:=bS h;refine aN fun K hK=>?_;simp only [go_sem,seval,f15];apply hK;refine aQ ?_
         try simp only [aU,bK]
         cases h;refine ⟨by simp,?_⟩;simp only [go_sem,seval,aJ]
       ·refine aV ?_
        try simp only [aL,aS]
        refine aF ?_;obtain ⟨x16,h17,h⟩:=aA h;refine aN fun K hK=>?_;simp only [go_sem,seval,c13];refine SC.by_ (Hs a0 a1 a2 _ h17 _ _ _ (by simp only [go_sem])) ?_;simp only [go_sem,seval];apply hK;refine aQ ?_;cases h;refine ⟨by simp,?_⟩;simp only [go_sem,seval,aJ]
def Dc (f:bH->(List Int)->Option (Int × Bool)):Prop:=∀a0 a1 r,f a0 a1=some r->∀(q:Pa) (m:M) (vs:List V),vs.map V.weak1=[.agg ((bH.C a0)),.list .none (a1.map (cI .u32))]->SC prog 198 vs q m (fun v m'=>v=.tup [.lit (.int .u32 r.1),.lit (.bool r.2)]/\m'=m)
theorem Gx {sY} (Dw:Dc sY) (n:Nat):Dc (wG sY n):=by
 intro a0 a1 r h q m vs hv;refine SC.wv hv (dZ func198 call198 ntmps198 results198 ?_);unfold wG at h;refine aM ?_;simp only [go_sem,seval];refine aF (aM ?_);simp only [go_sem,seval];refine bJ h (fun c2 h=>?_) (fun c2 h=>?_)
 ·refine aF ?_;obtain ⟨x3,h4,h⟩:=aA h;refine aN fun K hK=>?_;simp only [go_sem,seval,c2];refine SC.by_ (IB a0 a1 _ h4 _ _ _ (by simp only [go_sem])) ?_;simp only [go_sem,seval];apply hK;refine aQ ?_
  try simp only [aU]
  cases h;refine ⟨by simp,?_⟩;simp only [go_sem,seval,aO,aJ]
 ·refine aV ?_
  refine aF ?_;obtain ⟨x5,h10,h⟩:=aA h;obtain ⟨f7,f8,f9⟩:=aX h10;have f11:a0.aP[0]? = some x5:=f9;obtain ⟨x6,h12,h⟩:=aA h;refine aN fun K hK=>?_;simp only [go_sem,seval,c2,f7,f8,f11];refine SC.by_ (Dw x5 a1 _ h12 _ _ _ (by simp only [go_sem])) ?_;simp only [go_sem,seval];apply hK;refine aF (aF ?_);obtain ⟨y13,hy13,h⟩:=aA h;refine gN 26 (fun E' m'=>E' 1=.list .none (a1.map (cI .u32))/\E' 2=.ptr (0::q) 0/\E' 6=.lit (.int .u32 x6.1)/\E' 7=.lit (.bool x6.2)/\E' 32=.lit (.bool y13)/\m'.blk (0::q)=some ((bH.C a0))/\m'.gl=m.gl/\m.back q m'=m) ?_ ?_
  ·rcases dH hy13 with ⟨c14,hy13⟩ | ⟨c14,hy13⟩
   ·refine aN fun K hK=>?_;simp only [go_sem,seval,c14];apply hK;obtain rfl:=bV hy13;refine ⟨by decide,?_⟩;simp only [go_sem,seval,aO,aJ]
   ·refine aN fun K hK=>?_;simp only [go_sem,seval,c14];apply hK;obtain rfl:=bV hy13;refine ⟨by decide,?_⟩;simp only [go_sem,seval,aO,aJ]
  ·intro E15 m16 e17 _;refine bJ h (fun c18 h=>?_) (fun c18 h=>?_)
   ·refine aF ?_;obtain ⟨x19,h21,h⟩:=aA h;obtain ⟨x20,h22,h⟩:=aA h;refine dR [(0,0),(1,0),(2,0),(3,1),(4,0),(5,0),(6,0),(7,0),(8,0),(9,0)] 36 fun K hK=>?_;simp only [go_sem,seval,e17];refine cB (Ak x6.2 _ h21 _ _ _ (by simp only [go_sem])) rfl ?_;simp only [go_sem,seval,e17];refine cB (JJ a0.lE x6.1 _ h22 _ _ _ (by simp only [go_sem])) rfl ?_;simp only [go_sem,seval,e17];apply hK;refine aQ ?_
    try simp only [aU]
    cases h;refine ⟨by simp,?_⟩;simp only [go_sem,seval,e17]
   ·refine aV ?_
    refine aF ?_;obtain ⟨x23,h28,h⟩:=aA h;obtain ⟨f25,f26,f27⟩:=aX h28;have f29:a0.aP[1]? = some x23:=f27;obtain ⟨x24,h30,h⟩:=aA h;refine aN fun K hK=>?_;simp only [go_sem,seval,f25,f26,f29,e17];refine SC.by_ (Dw x23 a1 _ h30 _ _ _ (by simp only [go_sem])) ?_;simp only [go_sem,seval];apply hK;refine aF (aM ?_);simp only [go_sem,seval];refine bJ h (fun c31 h=>?_) (fun c31 h=>?_)
    ·refine aM ?_;simp only [go_sem,seval,c31];refine aQ ?_
     try simp only [aU]
     cases h;refine ⟨by simp,?_⟩;simp only [go_sem,seval,e17]
    ·refine aV ?_
     refine aF ?_;obtain ⟨x32,h33,h⟩:=aA h;refine aN fun K hK=>?_;simp only [go_sem,seval,c31,e17];refine SC.by_ (JI a0.lE x6.1 x24.1 _ h33 _ _ _ (by simp only [go_sem])) ?_;simp only [go_sem,seval];apply hK;refine aQ ?_;cases h;refine ⟨by simp,?_⟩;simp only [go_sem,seval,e17]
theorem uR:∀n,Dc (pN n)
 | 0=>fun _ _ _ h=>fL h
 | n+1=>Gx (uR n) n
def zI (f:aE->aG->(List Int)->Option (Int × aE)):Prop:=∀a0 a1 a2 r,f a0 a1 a2=some r->∀(q:Pa) (m:M) (vs:List V) (P0:Pa) (zP0:Nat),vs.map V.weak1=[.ptr P0 0,.agg ((aG.C a1)),.list .none (a2.map (cI .u64))]/\m.blk P0=some ((aR.C a0.p_)++[.lit (.int .i64 a0.dP),.lit (.int .i64 a0.fP),.lit (.int .i64 a0.e_),.list .self (a0.bT.map bA.C)])/\m.ver P0 4=zP0+a0.bT.length/\m.gl 3=.eptr [(cA bW.C dY)] 0 0->SC prog 166 vs q m (fun v m'=>v=.lit (.int .u64 r.1)/\m'=(m.setv P0 4 ((aR.C r.2.p_)++[.lit (.int .i64 r.2.dP),.lit (.int .i64 r.2.fP),.lit (.int .i64 r.2.e_),.list .self (r.2.bT.map bA.C)]) (zP0+r.2.bT.length)))
theorem yJ (n:Nat):zI (eT n):=by
 rintro a0 a1 a2 r h q m vs P0 zP0 ⟨hv,hmP0,hvrP0,hg3⟩;refine SC.wv hv ?_;refine SC.ap hmP0 fun u0 l0=>?_
 try simp only [go_sem] at hmP0 l0
 refine dZ func166 call166 ntmps166 results166 ?_;unfold eT at h;refine aM ?_;simp only [go_sem,seval];refine aF ?_;obtain ⟨y2,hy2,h⟩:=aA h;refine gN 15 (fun E' m'=>E' 0=.ptr P0 0/\E' 2=.list .none (a2.map (cI .u64))/\E' 4=.ptr (0::q) 0/\E' 7=.lit (.bool y2)/\m'.blk P0=some ((aR.C a0.p_)++[.lit (.int .i64 a0.dP),.lit (.int .i64 a0.fP),.lit (.int .i64 a0.e_),.list .self (a0.bT.map bA.C)])/\m'.blk (0::q)=some ((aG.C a1))/\m'.ver P0 4=zP0+a0.bT.length/\m'.gl=m.gl/\m.back q m'=(m.setv P0 4 ((aR.C a0.p_)++[.lit (.int .i64 a0.dP),.lit (.int .i64 a0.fP),.lit (.int .i64 a0.e_),.list .self (a0.bT.map bA.C)]) (zP0+a0.bT.length))) ?_ ?_
 ·rcases dH hy2 with ⟨c3,hy2⟩ | ⟨c3,hy2⟩
  ·obtain ⟨x4,h8,hy2⟩:=aA hy2;obtain ⟨f5,f6,f7⟩:=aX h8;have f9:a1.aP[0]? = some x4:=f7;refine aN fun K hK=>?_;simp only [go_sem,seval,f5,f6,f9];apply hK;obtain rfl:=bV hy2;refine ⟨by decide,?_⟩;simp only [go_sem,seval,aO,aJ,l0,lB hvrP0,hvrP0,fC u0,hmP0]
  ·refine aN fun K hK=>?_;simp only [go_sem,seval,c3];apply hK;obtain rfl:=bV hy2;refine ⟨by decide,?_⟩;simp only [go_sem,seval,aO,aJ,l0,lB hvrP0,hvrP0,fC u0,hmP0]
 ·intro E10 m11 e12 _;refine aM ?_;simp only [go_sem,seval];refine aF (aM ?_);simp only [go_sem,seval,e12];refine bJ h (fun c13 h=>?_) (fun c13 h=>?_)
  ·obtain ⟨x14,h18,h⟩:=aA h;obtain ⟨f15,f16,f17⟩:=aX h18;have f19:a2[1]? = some x14:=f17;refine aN fun K hK=>?_;simp only [go_sem,seval,f15,f16,f19,e12];apply hK;refine aF (aM ?_);simp only [go_sem,seval,e12];refine bJ h (fun c20 h=>?_) (fun c20 h=>?_)
   ·refine aF ?_;obtain ⟨x21,h26,h⟩:=aA h;obtain ⟨f23,f24,f25⟩:=aX h26;have f27:a2[0]? = some x21:=f25;obtain ⟨x22,h28,h⟩:=aA h;refine dR (o0 [0,1,2,3,4,5,6,7]) 32 fun K hK=>?_;simp only [go_sem,seval,c20,f23,f24,f27,e12];refine cB (Dv a1.lE x21 x14 _ h28 _ _ _ (by simp only [go_sem])) rfl ?_;simp only [go_sem,seval];apply hK;refine aQ ?_
    try simp only [aU]
    cases h;refine ⟨by simp,?_⟩;simp only [go_sem,seval,l0,lB hvrP0,e12]
   ·refine aV ?_
    refine aF (aF ?_);obtain ⟨y29,hy29,h⟩:=aA h;refine gN 32 (fun E' m'=>E' 0=.ptr P0 0/\E' 2=.list .none (a2.map (cI .u64))/\E' 4=.ptr (0::q) 0/\E' 8=.lit (.int .u64 x14)/\E' 47=.lit (.bool y29)/\m'.blk P0=some ((aR.C a0.p_)++[.lit (.int .i64 a0.dP),.lit (.int .i64 a0.fP),.lit (.int .i64 a0.e_),.list .self (a0.bT.map bA.C)])/\m'.blk (0::q)=some ((aG.C a1))/\m'.ver P0 4=zP0+a0.bT.length/\m'.gl=m.gl/\m.back q m'=(m.setv P0 4 ((aR.C a0.p_)++[.lit (.int .i64 a0.dP),.lit (.int .i64 a0.fP),.lit (.int .i64 a0.e_),.list .self (a0.bT.map bA.C)]) (zP0+a0.bT.length))) ?_ ?_
    ·rcases dH hy29 with ⟨c30,hy29⟩ | ⟨c30,hy29⟩
     ·refine aN fun K hK=>?_;simp only [go_sem,seval,c20,c30,e12];apply hK;obtain rfl:=bV hy29;refine ⟨by decide,?_⟩;simp only [go_sem,seval,l0,lB hvrP0,e12]
     ·refine aN fun K hK=>?_;simp only [go_sem,seval,c20,c30,e12];apply hK;obtain rfl:=bV hy29;refine ⟨by decide,?_⟩;simp only [go_sem,seval,l0,lB hvrP0,e12]
    ·intro E31 m32 e33 _;refine bJ h (fun c34 h=>?_) (fun c34 h=>?_)
     ·obtain ⟨x35,h40,h⟩:=aA h;obtain ⟨f37,f38,f39⟩:=aX h40;have f41:a2[0]? = some x35:=f39;obtain ⟨x36,h42,h⟩:=aA h;refine aN fun K hK=>?_;simp only [go_sem,seval,f37,f38,f41,e33];refine SC.by_ (jT a0 4 (u32.wrap x35) (u32.wrap x14) _ h42 _ _ _ P0 zP0 (by simp only [go_sem,e33])) ?_;simp only [go_sem,seval];apply hK;refine aF ?_;obtain ⟨x43,h45,h⟩:=aA h;refine aN fun K hK=>?_;simp only [go_sem,seval,fC u0,e33];refine SC.by_ (xP n a1.lE _ h45 _ _ _ (by simp only [go_sem,e33,hg3])) ?_;simp only [go_sem,seval];apply hK;refine aF (aM ?_);simp only [go_sem,seval,e33];refine bN ?_;obtain ⟨y49,hy49,h⟩:=aA h;refine kN (fun c E' m'=>∃v47 v48,lS a2 c v47 v48=some y49/\E' 0=.ptr P0 0/\E' 9=.ptr (44::q) 0/\E' 60=.list .none (a2.map (cI .u64))/\E' 61=.lit (.int .i64 (a2.length:Int))/\E' 62=.lit (.int .i64 v47)/\m'.blk P0=some ((aR.C x36.p_)++[.lit (.int .i64 x36.dP),.lit (.int .i64 x36.fP),.lit (.int .i64 x36.e_),.list .self (x36.bT.map bA.C)])/\m'.blk (44::q)=some ([.lit (.int .i64 v48.lE),.lit (.int .u32 v48.N_),.list .self (v48.aP.map bH.C)])/\m'.ver P0 4=zP0+x36.bT.length/\m'.gl=m.gl/\m.back q m'=(m.setv P0 4 ((aR.C x36.p_)++[.lit (.int .i64 x36.dP),.lit (.int .i64 x36.fP),.lit (.int .i64 x36.e_),.list .self (x36.bT.map bA.C)]) (zP0+x36.bT.length))) n ⟨0,(bH.mk x43 0 []),hy49,?_⟩ ?_
      ·simp only [go_sem,seval,aO,cM,l0,eU u0,lB hvrP0,fC u0,e33]
      rintro i46 c50 E51 m52 ⟨v47,v48,hy49,e53⟩ _
      rcases c50 with _ | c50
      ·cases hy49
      rw [lS] at hy49;refine aM ?_;simp only [go_sem,e53];refine aF (bJ hy49 (fun c54 hy49=>?_) (fun c54 hy49=>?_))
      ·refine aV ?_
       refine aF (bN (aF ?_));obtain ⟨x55,h59,hy49⟩:=aA hy49;obtain ⟨f56,f57,f58⟩:=aX h59;refine aN fun K hK=>?_;simp only [go_sem,seval,f56,f57,f58,e53];apply hK;obtain ⟨x60,h61,hy49⟩:=aA hy49;obtain ⟨f62,hy49⟩:=bS hy49;have f63:v48.aP.length+1<=1073741824:=by first | omega | (simp only [nL,jK,lD] at f62 ⊢;omega)
       have f64:v48.aP.length<=1073741823:=by first | omega | (simp only [nL,jK,lD] at f62 ⊢;omega)
       refine dR [(2,0),(3,0),(4,0),(0,0),(1,1),(5,0),(6,0),(7,0),(8,0)] 13 fun K hK=>?_;simp only [go_sem,seval];refine cB (BD (u32.wrap x55) _ h61 _ _ _ (by simp only [go_sem])) rfl ?_;simp only [go_sem,seval,f63,e53];apply hK;simp only [aL,aS];refine aN fun K hK=>?_;simp only [go_sem,seval,e53];apply hK;refine ⟨c50,xH _,(i64.wrap (v47+1)),({ v48 with aP:=(v48.aP++[x60]) }:bH),hy49,?_⟩;simp only [go_sem,seval,aO,cM,cH,fC u0,e53]
      ·refine dQ ?_
       try simp only [bZ,bR,↓reduceIte,aL]
       obtain rfl:=bV hy49;refine aF ?_;obtain ⟨x65,h66,h⟩:=aA h;refine aN fun K hK=>?_;simp only [go_sem,seval,c54,e53];refine SC.by_ (uR n v48 [] _ h66 _ _ _ (by simp only [go_sem])) ?_;simp only [go_sem,seval];apply hK;refine aF (aM ?_);simp only [go_sem,seval];refine bJ h (fun c67 h=>?_) (fun c67 h=>?_)
       ·refine aN fun K hK=>?_;simp only [go_sem,seval,c67,e53];apply hK;refine aM ?_;simp only [go_sem,seval];refine aQ ?_;cases h;refine ⟨by simp,?_⟩;simp only [go_sem,seval,bF u0,e53]
       ·refine aV ?_
        refine aM ?_;simp only [go_sem,seval,c67];refine aQ ?_;cases h;refine ⟨by simp,?_⟩;simp only [go_sem,seval,e53]
     ·refine aV ?_
      refine aF ?_;obtain ⟨x71,h73,h⟩:=aA h;refine aN fun K hK=>?_;simp only [go_sem,seval,e33];refine SC.by_ (xP n a1.lE _ h73 _ _ _ (by simp only [go_sem,e33,hg3])) ?_;simp only [go_sem,seval];apply hK;refine aF (aM ?_);simp only [go_sem,seval,e33];refine bN ?_;obtain ⟨y77,hy77,h⟩:=aA h;refine kN (fun c E' m'=>∃v75 v76,lR a2 c v75 v76=some y77/\E' 0=.ptr P0 0/\E' 9=.ptr (36::q) 0/\E' 60=.list .none (a2.map (cI .u64))/\E' 61=.lit (.int .i64 (a2.length:Int))/\E' 62=.lit (.int .i64 v75)/\m'.blk P0=some ((aR.C a0.p_)++[.lit (.int .i64 a0.dP),.lit (.int .i64 a0.fP),.lit (.int .i64 a0.e_),.list .self (a0.bT.map bA.C)])/\m'.blk (36::q)=some ([.lit (.int .i64 v76.lE),.lit (.int .u32 v76.N_),.list .self (v76.aP.map bH.C)])/\m'.ver P0 4=zP0+a0.bT.length/\m'.gl=m.gl/\m.back q m'=(m.setv P0 4 ((aR.C a0.p_)++[.lit (.int .i64 a0.dP),.lit (.int .i64 a0.fP),.lit (.int .i64 a0.e_),.list .self (a0.bT.map bA.C)]) (zP0+a0.bT.length))) n ⟨0,(bH.mk x71 0 []),hy77,?_⟩ ?_
      ·simp only [go_sem,seval,aO,cM,l0,lB hvrP0,fC u0,e33]
      rintro i74 c78 E79 m80 ⟨v75,v76,hy77,e81⟩ _
      rcases c78 with _ | c78
      ·cases hy77
      rw [lR] at hy77;refine aM ?_;simp only [go_sem,e81];refine aF (bJ hy77 (fun c82 hy77=>?_) (fun c82 hy77=>?_))
      ·refine aV ?_
       refine aF (bN (aF ?_));obtain ⟨x83,h87,hy77⟩:=aA hy77;obtain ⟨f84,f85,f86⟩:=aX h87;refine aN fun K hK=>?_;simp only [go_sem,seval,f84,f85,f86,e81];apply hK;obtain ⟨x88,h89,hy77⟩:=aA hy77;obtain ⟨f90,hy77⟩:=bS hy77;have f91:v76.aP.length+1<=1073741824:=by first | omega | (simp only [nL,jK,lD] at f90 ⊢;omega)
       have f92:v76.aP.length<=1073741823:=by first | omega | (simp only [nL,jK,lD] at f90 ⊢;omega)
       refine dR [(2,0),(3,0),(4,0),(0,0),(1,1),(5,0),(6,0),(7,0),(8,0)] 13 fun K hK=>?_;simp only [go_sem,seval];refine cB (BD (u32.wrap x83) _ h89 _ _ _ (by simp only [go_sem])) rfl ?_;simp only [go_sem,seval,f91,e81];apply hK;simp only [aL,aS];refine aN fun K hK=>?_;simp only [go_sem,seval,e81];apply hK;refine ⟨c78,xH _,(i64.wrap (v75+1)),({ v76 with aP:=(v76.aP++[x88]) }:bH),hy77,?_⟩;simp only [go_sem,seval,aO,cM,cH,l0,lB hvrP0,fC u0,e81]
      ·refine dQ ?_
       try simp only [bZ,bR,↓reduceIte,aL]
       obtain rfl:=bV hy77;refine aF ?_;obtain ⟨x93,h94,h⟩:=aA h;refine aN fun K hK=>?_;simp only [go_sem,seval,c82,e81];refine SC.by_ (uR n v76 [] _ h94 _ _ _ (by simp only [go_sem])) ?_;simp only [go_sem,seval];apply hK;refine aF (aM ?_);simp only [go_sem,seval];refine bJ h (fun c95 h=>?_) (fun c95 h=>?_)
       ·refine aN fun K hK=>?_;simp only [go_sem,seval,c95,e81];apply hK;refine aM ?_;simp only [go_sem,seval];refine aQ ?_;cases h;refine ⟨by simp,?_⟩;simp only [go_sem,seval,bF u0,l0,lB hvrP0,e81]
       ·refine aV ?_
        refine aM ?_;simp only [go_sem,seval,c95];refine aQ ?_;cases h;refine ⟨by simp,?_⟩;simp only [go_sem,seval,l0,lB hvrP0,e81]
  ·refine aV ?_
   refine aF (aM ?_);simp only [go_sem,seval,c13,e12];refine bJ h (fun c99 h=>?_) (fun c99 h=>?_)
   ·refine aF ?_;obtain ⟨x100,h105,h⟩:=aA h;obtain ⟨f102,f103,f104⟩:=aX h105;have f106:a2[0]? = some x100:=f104;obtain ⟨x101,h107,h⟩:=aA h;refine dR (o0 [0,1,2,3,4,5,6,7]) 28 fun K hK=>?_;simp only [go_sem,seval,c99,f102,f103,f106,e12];refine cB (Dv a1.lE x100 0 _ h107 _ _ _ (by simp only [go_sem])) rfl ?_;simp only [go_sem,seval];apply hK;refine aQ ?_
    try simp only [aU]
    cases h;refine ⟨by simp,?_⟩;simp only [go_sem,seval,l0,lB hvrP0,e12]
   ·refine aV ?_
    refine aF (aF ?_);obtain ⟨y108,hy108,h⟩:=aA h;refine gN 28 (fun E' m'=>E' 0=.ptr P0 0/\E' 2=.list .none (a2.map (cI .u64))/\E' 4=.ptr (0::q) 0/\E' 8=.lit (.int .u64 0)/\E' 47=.lit (.bool y108)/\m'.blk P0=some ((aR.C a0.p_)++[.lit (.int .i64 a0.dP),.lit (.int .i64 a0.fP),.lit (.int .i64 a0.e_),.list .self (a0.bT.map bA.C)])/\m'.blk (0::q)=some ((aG.C a1))/\m'.ver P0 4=zP0+a0.bT.length/\m'.gl=m.gl/\m.back q m'=(m.setv P0 4 ((aR.C a0.p_)++[.lit (.int .i64 a0.dP),.lit (.int .i64 a0.fP),.lit (.int .i64 a0.e_),.list .self (a0.bT.map bA.C)]) (zP0+a0.bT.length))) ?_ ?_
    ·rcases dH hy108 with ⟨c109,hy108⟩ | ⟨c109,hy108⟩
     ·refine aN fun K hK=>?_;simp only [go_sem,seval,c99,c109,e12];apply hK;obtain rfl:=bV hy108;refine ⟨by decide,?_⟩;simp only [go_sem,seval,l0,lB hvrP0,e12]
     ·refine aN fun K hK=>?_;simp only [go_sem,seval,c99,c109,e12];apply hK;obtain rfl:=bV hy108;refine ⟨by decide,?_⟩;simp only [go_sem,seval,l0,lB hvrP0,e12]
    ·intro E110 m111 e112 _;refine bJ h (fun c113 h=>?_) (fun c113 h=>?_)
     ·obtain ⟨x114,h119,h⟩:=aA h;obtain ⟨f116,f117,f118⟩:=aX h119;have f120:a2[0]? = some x114:=f118;obtain ⟨x115,h121,h⟩:=aA h;refine aN fun K hK=>?_;simp only [go_sem,seval,f116,f117,f120,e112];refine SC.by_ (jT a0 4 (u32.wrap x114) (u32.wrap 0) _ h121 _ _ _ P0 zP0 (by simp only [go_sem,e112])) ?_;simp only [go_sem,seval];apply hK;refine aF ?_;obtain ⟨x122,h124,h⟩:=aA h;refine aN fun K hK=>?_;simp only [go_sem,seval,fC u0,e112];refine SC.by_ (xP n a1.lE _ h124 _ _ _ (by simp only [go_sem,e112,hg3])) ?_;simp only [go_sem,seval];apply hK;refine aF (aM ?_);simp only [go_sem,seval,e112];refine bN ?_;obtain ⟨y128,hy128,h⟩:=aA h;refine kN (fun c E' m'=>∃v126 v127,lQ a2 c v126 v127=some y128/\E' 0=.ptr P0 0/\E' 9=.ptr (40::q) 0/\E' 60=.list .none (a2.map (cI .u64))/\E' 61=.lit (.int .i64 (a2.length:Int))/\E' 62=.lit (.int .i64 v126)/\m'.blk P0=some ((aR.C x115.p_)++[.lit (.int .i64 x115.dP),.lit (.int .i64 x115.fP),.lit (.int .i64 x115.e_),.list .self (x115.bT.map bA.C)])/\m'.blk (40::q)=some ([.lit (.int .i64 v127.lE),.lit (.int .u32 v127.N_),.list .self (v127.aP.map bH.C)])/\m'.ver P0 4=zP0+x115.bT.length/\m'.gl=m.gl/\m.back q m'=(m.setv P0 4 ((aR.C x115.p_)++[.lit (.int .i64 x115.dP),.lit (.int .i64 x115.fP),.lit (.int .i64 x115.e_),.list .self (x115.bT.map bA.C)]) (zP0+x115.bT.length))) n ⟨0,(bH.mk x122 0 []),hy128,?_⟩ ?_
      ·simp only [go_sem,seval,aO,cM,l0,eU u0,lB hvrP0,fC u0,e112]
      rintro i125 c129 E130 m131 ⟨v126,v127,hy128,e132⟩ _
      rcases c129 with _ | c129
      ·cases hy128
      rw [lQ] at hy128;refine aM ?_;simp only [go_sem,e132];refine aF (bJ hy128 (fun c133 hy128=>?_) (fun c133 hy128=>?_))
      ·refine aV ?_
       refine aF (bN (aF ?_));obtain ⟨x134,h138,hy128⟩:=aA hy128;obtain ⟨f135,f136,f137⟩:=aX h138;refine aN fun K hK=>?_;simp only [go_sem,seval,f135,f136,f137,e132];apply hK;obtain ⟨x139,h140,hy128⟩:=aA hy128;obtain ⟨f141,hy128⟩:=bS hy128;have f142:v127.aP.length+1<=1073741824:=by first | omega | (simp only [nL,jK,lD] at f141 ⊢;omega)
       have f143:v127.aP.length<=1073741823:=by first | omega | (simp only [nL,jK,lD] at f141 ⊢;omega)
       refine dR [(2,0),(3,0),(4,0),(0,0),(1,1),(5,0),(6,0),(7,0),(8,0)] 13 fun K hK=>?_;simp only [go_sem,seval];refine cB (BD (u32.wrap x134) _ h140 _ _ _ (by simp only [go_sem])) rfl ?_;simp only [go_sem,seval,f142,e132];apply hK;simp only [aL,aS];refine aN fun K hK=>?_;simp only [go_sem,seval,e132];apply hK;refine ⟨c129,xH _,(i64.wrap (v126+1)),({ v127 with aP:=(v127.aP++[x139]) }:bH),hy128,?_⟩;simp only [go_sem,seval,aO,cM,cH,fC u0,e132]
      ·refine dQ ?_
       try simp only [bZ,bR,↓reduceIte,aL]
       obtain rfl:=bV hy128;refine aF ?_;obtain ⟨x144,h145,h⟩:=aA h;refine aN fun K hK=>?_;simp only [go_sem,seval,c133,e132];refine SC.by_ (uR n v127 [] _ h145 _ _ _ (by simp only [go_sem])) ?_;simp only [go_sem,seval];apply hK;refine aF (aM ?_);simp only [go_sem,seval];refine bJ h (fun c146 h=>?_) (fun c146 h=>?_)
       ·refine aN fun K hK=>?_;simp only [go_sem,seval,c146,e132];apply hK;refine aM ?_;simp only [go_sem,seval];refine aQ ?_;cases h;refine ⟨by simp,?_⟩;simp only [go_sem,seval,bF u0,e132]
       ·refine aV ?_
        refine aM ?_;simp only [go_sem,seval,c146];refine aQ ?_;cases h;refine ⟨by simp,?_⟩;simp only [go_sem,seval,e132]
     ·refine aV ?_
      refine aF ?_;obtain ⟨x150,h152,h⟩:=aA h;refine aN fun K hK=>?_;simp only [go_sem,seval,e112];refine SC.by_ (xP n a1.lE _ h152 _ _ _ (by simp only [go_sem,e112,hg3])) ?_;simp only [go_sem,seval];apply hK;refine aF (aM ?_);simp only [go_sem,seval,e112];refine bN ?_;obtain ⟨y156,hy156,h⟩:=aA h;refine kN (fun c E' m'=>∃v154 v155,lP a2 c v154 v155=some y156/\E' 0=.ptr P0 0/\E' 9=.ptr (32::q) 0/\E' 60=.list .none (a2.map (cI .u64))/\E' 61=.lit (.int .i64 (a2.length:Int))/\E' 62=.lit (.int .i64 v154)/\m'.blk P0=some ((aR.C a0.p_)++[.lit (.int .i64 a0.dP),.lit (.int .i64 a0.fP),.lit (.int .i64 a0.e_),.list .self (a0.bT.map bA.C)])/\m'.blk (32::q)=some ([.lit (.int .i64 v155.lE),.lit (.int .u32 v155.N_),.list .self (v155.aP.map bH.C)])/\m'.ver P0 4=zP0+a0.bT.length/\m'.gl=m.gl/\m.back q m'=(m.setv P0 4 ((aR.C a0.p_)++[.lit (.int .i64 a0.dP),.lit (.int .i64 a0.fP),.lit (.int .i64 a0.e_),.list .self (a0.bT.map bA.C)]) (zP0+a0.bT.length))) n ⟨0,(bH.mk x150 0 []),hy156,?_⟩ ?_
      ·simp only [go_sem,seval,aO,cM,l0,lB hvrP0,fC u0,e112]
      rintro i153 c157 E158 m159 ⟨v154,v155,hy156,e160⟩ _
      rcases c157 with _ | c157
      ·cases hy156
      rw [lP] at hy156;refine aM ?_;simp only [go_sem,e160];refine aF (bJ hy156 (fun c161 hy156=>?_) (fun c161 hy156=>?_))
      ·refine aV ?_
       refine aF (bN (aF ?_));obtain ⟨x162,h166,hy156⟩:=aA hy156;obtain ⟨f163,f164,f165⟩:=aX h166;refine aN fun K hK=>?_;simp only [go_sem,seval,f163,f164,f165,e160];apply hK;obtain ⟨x167,h168,hy156⟩:=aA hy156;obtain ⟨f169,hy156⟩:=bS hy156;have f170:v155.aP.length+1<=1073741824:=by first | omega | (simp only [nL,jK,lD] at f169 ⊢;omega)
       have f171:v155.aP.length<=1073741823:=by first | omega | (simp only [nL,jK,lD] at f169 ⊢;omega)
       refine dR [(2,0),(3,0),(4,0),(0,0),(1,1),(5,0),(6,0),(7,0),(8,0)] 13 fun K hK=>?_;simp only [go_sem,seval];refine cB (BD (u32.wrap x162) _ h168 _ _ _ (by simp only [go_sem])) rfl ?_;simp only [go_sem,seval,f170,e160];apply hK;simp only [aL,aS];refine aN fun K hK=>?_;simp only [go_sem,seval,e160];apply hK;refine ⟨c157,xH _,(i64.wrap (v154+1)),({ v155 with aP:=(v155.aP++[x167]) }:bH),hy156,?_⟩;simp only [go_sem,seval,aO,cM,cH,l0,lB hvrP0,fC u0,e160]
      ·refine dQ ?_
       try simp only [bZ,bR,↓reduceIte,aL]
       obtain rfl:=bV hy156;refine aF ?_;obtain ⟨x172,h173,h⟩:=aA h;refine aN fun K hK=>?_;simp only [go_sem,seval,c161,e160];refine SC.by_ (uR n v155 [] _ h173 _ _ _ (by simp only [go_sem])) ?_;simp only [go_sem,seval];apply hK;refine aF (aM ?_);simp only [go_sem,seval];refine bJ h (fun c174 h=>?_) (fun c174 h=>?_)
       ·refine aN fun K hK=>?_;simp only [go_sem,seval,c174,e160];apply hK;refine aM ?_;simp only [go_sem,seval];refine aQ ?_;cases h;refine ⟨by simp,?_⟩;simp only [go_sem,seval,bF u0,l0,lB hvrP0,e160]
       ·refine aV ?_
        refine aM ?_;simp only [go_sem,seval,c174];refine aQ ?_;cases h;refine ⟨by simp,?_⟩;simp only [go_sem,seval,l0,lB hvrP0,e160]
def kS (f:aE->aK->(List (List Int))->aG->Option (Int × aE)):Prop:=∀a0 a1 a2 a3 r,f a0 a1 a2 a3=some r->∀(q:Pa) (m:M) (vs:List V) (P0:Pa) (P1:Pa) (zP0:Nat) (W A:Pa) (AS:List Pa) (LS:List Nat),vs.map V.weak1=[.ptr P0 0,.ptr P1 0,.agg ((aG.C a3))]/\m.blk P0=some ((aR.C a0.p_)++[.lit (.int .i64 a0.dP),.lit (.int .i64 a0.fP),.lit (.int .i64 a0.e_),.list .self (a0.bT.map bA.C)])/\m.blk P1=some (Cj W A a1)/\m.ver P0 4=zP0+a0.bT.length/\nK m.hp W A AS LS a1.cC a1.cK a2/\(P0=P1)=False/\(P1=P0)=False/\m.gl 3=.eptr [(cA bW.C dY)] 0 0->SC prog 120 vs q m (fun v m'=>v=.lit (.int .u64 r.1)/\m'=(m.setv P0 4 ((aR.C r.2.p_)++[.lit (.int .i64 r.2.dP),.lit (.int .i64 r.2.fP),.lit (.int .i64 r.2.e_),.list .self (r.2.bT.map bA.C)]) (zP0+r.2.bT.length)))
def oH (f:aE->aK->(List (List Int))->aG->Int->Option (Int × aE)):Prop:=∀a0 a1 a2 a3 a4 r,f a0 a1 a2 a3 a4=some r->∀(q:Pa) (m:M) (vs:List V) (P0:Pa) (P1:Pa) (zP0:Nat) (W A:Pa) (AS:List Pa) (LS:List Nat),vs.map V.weak1=[.ptr P0 0,.ptr P1 0,.agg ((aG.C a3)),.lit (.int .i64 a4)]/\m.blk P0=some ((aR.C a0.p_)++[.lit (.int .i64 a0.dP),.lit (.int .i64 a0.fP),.lit (.int .i64 a0.e_),.list .self (a0.bT.map bA.C)])/\m.blk P1=some (Cj W A a1)/\m.ver P0 4=zP0+a0.bT.length/\nK m.hp W A AS LS a1.cC a1.cK a2/\(P0=P1)=False/\(P1=P0)=False/\m.gl 3=.eptr [(cA bW.C dY)] 0 0->SC prog 164 vs q m (fun v m'=>v=.lit (.int .u32 r.1)/\m'=(m.setv P0 4 ((aR.C r.2.p_)++[.lit (.int .i64 r.2.dP),.lit (.int .i64 r.2.fP),.lit (.int .i64 r.2.e_),.list .self (r.2.bT.map bA.C)]) (zP0+r.2.bT.length)))
theorem yI {mO} (yX:oH mO) {dG} (pD:kS dG) (n:Nat):kS (eC mO dG n):=by
 rintro a0 a1 a2 a3 r h q m vs P0 P1 zP0 W A AS LS ⟨hv,hmP0,hmP1,hvrP0,hkF,hn0_1,hn1_0,hg3⟩;refine SC.wv hv ?_;refine SC.apart hmP0 fun u0=>?_;refine SC.apart hmP1 fun u1=>?_;have l0:=mU hmP0
 try simp only [go_sem] at hmP0 l0
 try simp only [go_sem] at hmP1
 refine dZ func120 call120 ntmps120 results120 ?_;unfold eC at h;refine aM ?_;simp only [go_sem,seval];refine aF (aM ?_);simp only [go_sem,seval];refine bN (aM ?_);simp only [go_sem,seval];refine bJ h (fun c2 h=>?_) (fun c2 h=>?_)
 ·refine aM ?_;simp only [go_sem,seval,c2];refine aQ ?_
  try simp only [aU,bK]
  cases h;refine ⟨by simp,?_⟩;simp only [go_sem,seval,aO,aJ,l0,lB hvrP0]
 ·refine aM ?_;simp only [go_sem,seval,c2];refine bJ h (fun c3 h=>?_) (fun c3 h=>?_)
  ·refine aF ?_;obtain ⟨x4,h8,h⟩:=aA h;obtain ⟨f5,f6,f7⟩:=aX h8;obtain ⟨w9,d10⟩:=rO (f:=Hi) f7;refine dR (o0 [0,1,2,3,4,5,6,7,8]) 17 fun K hK=>?_;simp only [go_sem,seval,fC u1,hkF.w,c3,f5,f6,d10,hmP1];apply hK;refine aQ ?_
   try simp only [aU,bK]
   cases h;refine ⟨by simp,?_⟩;simp only [go_sem,seval,aO,aJ,l0,lB hvrP0]
  ·refine aM ?_;simp only [go_sem,seval,c3];refine bJ h (fun c11 h=>?_) (fun c11 h=>?_)
   ·refine aF ?_;obtain ⟨x12,h17,h⟩:=aA h;obtain ⟨f14,f15,f16⟩:=aX h17;have f18:a3.aP[0]? = some x12:=f16;obtain ⟨x13,h19,h⟩:=aA h;refine dR (o0 [0,1,2,3,4,5,6,7,8,9]) 20 fun K hK=>?_;simp only [go_sem,seval,c11,f14,f15,f18];refine cB (yX a0 a1 a2 x12 a3.mD _ h19 _ _ _ P0 P1 zP0 W A AS LS (by simp only [go_sem,seval,fC u0,fC u1,hkF,hn0_1,hn1_0,hmP0,hvrP0,hmP1,hg3])) rfl ?_;simp only [go_sem,seval];apply hK;refine aF (aF ?_);obtain ⟨x20,h21,h⟩:=aA h;refine aN fun K hK=>?_;simp only [go_sem,seval];refine SC.by_ (cY x13.2 _ h21 _ _ _ P0 zP0 (by simp only [go_sem,seval])) ?_;simp only [go_sem,seval];apply hK;refine bJ h (fun c22 h=>?_) (fun c22 h=>?_)
    ·refine aM ?_;simp only [go_sem,seval,c22];refine aQ ?_
     try simp only [aU,bK]
     cases h;refine ⟨by simp,?_⟩;simp only [go_sem,seval,aO,aJ,eU u0]
    ·refine aV ?_
     refine aF ?_;obtain ⟨x23,h30,h⟩:=aA h;obtain ⟨f27,f28,f29⟩:=aX h30;obtain ⟨w31,d32⟩:=rO (f:=(xB AS LS)) f29;obtain ⟨x24,h36,h⟩:=aA h;obtain ⟨f33,f34,f35⟩:=aX h36;have hx_a_25:=f35;obtain ⟨a_25,d37,d38,ex_a_25,nw_a_25,na_a_25⟩:=nK.get hkF f33 f35;obtain ⟨x26,h42,h⟩:=aA h;obtain ⟨f39,f40,f41⟩:=aX h42;obtain ⟨w43,d44⟩:=rO (f:=By) f41;refine dR (o0 [0,1,2,3,4,5,6,7,8,9,10,11,12]) 35 fun K hK=>?_;simp only [go_sem,seval,fC u0,fC u1,hkF.a,hn1_0,c22,f27,f28,d32,d37,d38,f39,f40,d44,hmP1];apply hK;refine aQ ?_
     try simp only [aU,bK]
     cases h;refine ⟨by simp,?_⟩;simp only [go_sem,seval,aO,aJ,eU u0]
   ·refine aV ?_
    try simp only [aL,aS]
    refine aM ?_;simp only [go_sem,seval,c11];refine aF (aM ?_);simp only [go_sem,seval];refine bN ?_;obtain ⟨y49,hy49,h⟩:=aA h;refine zA 8 ([].map (cI .u64)) rfl (by simp only [go_sem,seval]) ?_;refine kN (fun c E' m'=>∃v46 v47 v48 o_v46 j_v46,dU dG a3 a1 a2 c v46 v47 v48=some y49/\E' 0=.ptr P0 0/\E' 1=.ptr P1 0/\E' 5=.ptr (0::q) 0/\E' 8=.list (.st (.anon o_v46 j_v46)) (v46.map (cI .u64))/\m'.tok o_v46 j_v46=true/\q <:+ o_v46/\E' 57=.list .none (a3.aP.map aG.C)/\E' 58=.lit (.int .i64 (a3.aP.length:Int))/\E' 59=.lit (.int .i64 v47)/\m'.blk P0=some ((aR.C v48.p_)++[.lit (.int .i64 v48.dP),.lit (.int .i64 v48.fP),.lit (.int .i64 v48.e_),.list .self (v48.bT.map bA.C)])/\m'.blk P1=some (Cj W A a1)/\m'.blk (0::q)=some ((aG.C a3))/\m'.ver P0 4=zP0+v48.bT.length/\m'.gl=m.gl/\m'.hp=m.hp/\m.back q m'=(m.setv P0 4 ((aR.C v48.p_)++[.lit (.int .i64 v48.dP),.lit (.int .i64 v48.fP),.lit (.int .i64 v48.e_),.list .self (v48.bT.map bA.C)]) (zP0+v48.bT.length))) n ⟨[],0,a0,(15::q),0,hy49,?_⟩ ?_
    ·simp only [go_sem,seval,aO,cH,aJ,l0,lB hvrP0,hvrP0,fC u0,fC u1,hmP0,hmP1]
    rintro i45 c50 E51 m52 ⟨v46,v47,v48,o_v46,j_v46,hy49,e53⟩ _
    rcases c50 with _ | c50
    ·cases hy49
    rw [dU] at hy49;refine aM ?_;simp only [go_sem,seval,e53];refine aF (bJ hy49 (fun c54 hy49=>?_) (fun c54 hy49=>?_))
    ·refine aV ?_
     refine aF (bN (aF ?_));obtain ⟨x55,h60,hy49⟩:=aA hy49;obtain ⟨f57,f58,f59⟩:=aX h60;refine aN fun K hK=>?_;simp only [go_sem,seval,f57,f58,f59,e53];apply hK;refine aF ?_;obtain ⟨x61,h62,hy49⟩:=aA hy49;refine aN fun K hK=>?_;simp only [go_sem,seval,e53];refine SC.by_ (pD v48 a1 a2 x55 _ h62 _ _ _ P0 P1 zP0 W A AS LS (by simp only [go_sem,seval,fC u0,fC u1,hkF,hn0_1,hn1_0,e53,hg3])) ?_;simp only [go_sem,seval];apply hK;refine aF (aF ?_);obtain ⟨x63,h64,hy49⟩:=aA hy49;refine aN fun K hK=>?_;simp only [go_sem,seval,e53];refine SC.by_ (cY x61.2 _ h64 _ _ _ P0 zP0 (by simp only [go_sem,seval])) ?_;simp only [go_sem,seval];apply hK;refine bJ hy49 (fun c65 hy49=>?_) (fun c65 hy49=>?_)
     ·refine aM ?_;simp only [go_sem,seval,c65];refine aQ ?_
      try simp only [aU,bK]
      obtain rfl:=bV hy49;simp only [DX] at h;cases h;refine ⟨by simp,?_⟩;simp only [go_sem,seval,aO,eU u0,e53]
     ·refine aV ?_
      try simp only [aL]
      obtain ⟨f66,hy49⟩:=bS hy49;have f67:v46.length+1<=1073741824:=by first | omega | (simp only [nL,jK,lD] at f66 ⊢;omega)
      have f68:v46.length<=1073741823:=by first | omega | (simp only [nL,jK,lD] at f66 ⊢;omega)
      refine fB fun K hK=>?_;simp only [go_sem,seval,c65,f67,e53];apply hK;simp only [aL,aS];refine aN fun K hK=>?_;simp only [go_sem,seval,e53];apply hK;refine ⟨c50,xH _,(v46++[x61.1]),(i64.wrap (v47+1)),x61.2,(15::i45::16::q),0,hy49,?_⟩;simp only [go_sem,seval,aO,cH,eU u0,fC u0,fC u1,hn1_0,e53]
    ·refine dQ ?_
     try simp only [bZ,bR,↓reduceIte,aL]
     obtain rfl:=bV hy49;simp only [FW] at h;refine aF (aF ?_);obtain ⟨x69,h70,h⟩:=aA h;refine aN fun K hK=>?_;simp only [go_sem,seval,c54,e53];refine SC.by_ (Ge a3.lE v46 _ h70 _ _ _ (by simp only [go_sem])) ?_;simp only [go_sem,seval];apply hK;refine aM ?_;simp only [go_sem,seval];refine bJ h (fun c71 h=>?_) (fun c71 h=>?_)
     ·refine aM ?_;simp only [go_sem,seval,c71];refine aQ ?_
      try simp only [aU]
      cases h;refine ⟨by simp,?_⟩;simp only [go_sem,seval,e53]
     ·refine aV ?_
      refine aF ?_;obtain ⟨x72,h73,h⟩:=aA h;refine aN fun K hK=>?_;simp only [go_sem,seval,c71,e53];refine SC.by_ (yJ n v48 a3 v46 _ h73 _ _ _ P0 zP0 (by simp only [go_sem,e53,hg3])) ?_;simp only [go_sem,seval];apply hK;refine aQ ?_;cases h;refine ⟨by simp,?_⟩;simp only [go_sem,seval,eU u0,e53]
theorem yK {dG} (pD:kS dG) (n:Nat):oH (hM dG n):=by
 rintro a0 a1 a2 a3 a4 r h q m vs P0 P1 zP0 W A AS LS ⟨hv,hmP0,hmP1,hvrP0,hkF,hn0_1,hn1_0,hg3⟩;refine SC.wv hv ?_;refine SC.apart hmP0 fun u0=>?_;refine SC.apart hmP1 fun u1=>?_;have l0:=mU hmP0
 try simp only [go_sem] at hmP0 l0
 try simp only [go_sem] at hmP1
 refine dZ func164 call164 ntmps164 results164 ?_;unfold hM at h;refine aM ?_;simp only [go_sem,seval];refine aF ?_;obtain ⟨x2,h3,h⟩:=aA h;refine aN fun K hK=>?_;simp only [go_sem,seval];refine SC.by_ (pD a0 a1 a2 a3 _ h3 _ _ _ P0 P1 zP0 W A AS LS (by simp only [go_sem,seval,cQ u0,cQ u1,hkF,hn0_1,hn1_0,hmP0,hvrP0,hmP1,hg3])) ?_;simp only [go_sem,seval];apply hK;refine aF (aF ?_);obtain ⟨x4,h5,h⟩:=aA h;refine aN fun K hK=>?_;simp only [go_sem,seval];refine SC.by_ (cY x2.2 _ h5 _ _ _ P0 zP0 (by simp only [go_sem,seval])) ?_;simp only [go_sem,seval];apply hK;refine bJ h (fun c6 h=>?_) (fun c6 h=>?_)
 ·refine aM ?_;simp only [go_sem,seval,c6];refine aQ ?_
  try simp only [aU]
  cases h;refine ⟨by simp,?_⟩;simp only [go_sem,seval,aO,aJ,eU u0]
 ·refine aV ?_
  refine aF ?_;obtain ⟨x7,h13,h⟩:=aA h;obtain ⟨f10,f11,f12⟩:=aX h13;obtain ⟨w14,d15⟩:=rO (f:=(xB AS LS)) f12;obtain ⟨x8,h19,h⟩:=aA h;obtain ⟨f16,f17,f18⟩:=aX h19;have hx_a_9:=f18;obtain ⟨a_9,d20,d21,ex_a_9,nw_a_9,na_a_9⟩:=nK.get hkF f16 f18;refine aN fun K hK=>?_;simp only [go_sem,seval,cQ u1,hkF.a,hn1_0,c6,f10,f11,d15,d20,hmP1];apply hK;refine aF ?_;obtain ⟨x22,h23,h⟩:=aA h;refine aN fun K hK=>?_;simp only [go_sem,seval];refine SC.by_ (jT x2.2 3 (u32.wrap x2.1) (u32.wrap (x8.length:Int)) _ h23 _ _ _ P0 zP0 (by simp only [go_sem,seval])) ?_;simp only [go_sem,seval];apply hK;refine aF (aM ?_);simp only [go_sem,seval];refine bJ h (fun c24 h=>?_) (fun c24 h=>?_)
  ·refine aM ?_;simp only [go_sem,seval,c24];refine aM ?_;simp only [go_sem,seval];refine aQ ?_
   try simp only [aU]
   cases h;refine ⟨by simp,?_⟩;simp only [go_sem,seval,aO,aJ,eU u0]
  ·refine aV ?_
   refine aM ?_;simp only [go_sem,seval,c24];refine aQ ?_;cases h;refine ⟨by simp,?_⟩;simp only [go_sem,seval,aO,aJ,eU u0]
theorem oJ:∀n,kS (bP n)/\oH (eZ n)
 | 0=>⟨fun _ _ _ _ _ h=>fL h,fun _ _ _ _ _ _ h=>fL h⟩
 | n+1=>
   have ih:=oJ n
   ⟨yI ih.2 ih.1 n,yK ih.1 n⟩
theorem fF (n:Nat):kS (bP n):=(oJ n).1
theorem Aw (n:Nat):oH (eZ n):=(oJ n).2
def Dm (f:aK->(List (List Int))->Int->Int->Option (aK × (List (List Int)))):Prop:=∀a0 a1 a2 a3 r,f a0 a1 a2 a3=some r->∀(q:Pa) (m:M) (vs:List V) (P0:Pa) (W A:Pa) (AS:List Pa) (LS:List Nat),vs.map V.weak1=[.ptr P0 0,.lit (.int .i64 a2),.lit (.int .u64 a3)]/\m.blk P0=some (Cj W A a0)/\nK m.hp W A AS LS a0.cC a0.cK a1->SC prog 121 vs q m (fun v m'=>v=.tup []/\m'=((m.set P0 (Cj W A r.1)).seth (sN m.hp W r.1.cC AS r.2))/\eG a0 a1 r.1 r.2)
theorem kF:Dm (dN):=by
 rintro a0 a1 a2 a3 r h q m vs P0 W A AS LS ⟨hv,hmP0,hkF⟩;refine SC.wv hv ?_;refine SC.ap hmP0 fun u0 l0=>?_
 try simp only [go_sem] at hmP0 l0
 refine dZ func121 call121 ntmps121 results121 ?_;unfold dN at h;refine aM ?_;simp only [go_sem,seval];refine bJ h (fun c1 h=>?_) (fun c1 h=>?_)
 ·obtain ⟨x2,h9,h⟩:=aA h;obtain ⟨f6,f7,f8⟩:=aX h9;obtain ⟨w10,d11⟩:=rO (f:=Hi) f8;have f3:a2.toNat+1<=a0.cC.length:=by omega
  have kp4:eG a0 a1 ({ a0 with cC:=(a0.cC.set a2.toNat a3) }:aK) a1:=eG.setW eG.refl;have hk5:nK (sN m.hp W ({ a0 with cC:=(a0.cC.set a2.toNat a3) }:aK).cC AS a1) W A AS LS ({ a0 with cC:=(a0.cC.set a2.toNat a3) }:aK).cC ({ a0 with cC:=(a0.cC.set a2.toNat a3) }:aK).cK a1:=nK.upk hkF kp4;refine fB fun K hK=>?_;simp only [go_sem,seval,rG,hkF.w,f6,f7,f3,(nK.setW hkF),hmP0];apply hK;simp only [];cases h;refine ⟨by simp,?_⟩;simp only [go_sem,aJ,iH,l0,HL,kp4]
 ·refine aV ?_;cases h;refine ⟨by simp,?_⟩;simp only [go_sem,aJ,l0,nK.same hkF,NN,c1]
def Bc (f:aE->aK->(List (List Int))->aH->Option (aE × aK × (List (List Int)))):Prop:=∀a0 a1 a2 a3 r,f a0 a1 a2 a3=some r->∀(q:Pa) (m:M) (vs:List V) (P0:Pa) (P1:Pa) (zP0:Nat) (W A:Pa) (AS:List Pa) (LS:List Nat),vs.map V.weak1=[.ptr P0 0,.ptr P1 0,.agg ((aH.C a3))]/\m.blk P0=some ((aR.C a0.p_)++[.lit (.int .i64 a0.dP),.lit (.int .i64 a0.fP),.lit (.int .i64 a0.e_),.list .self (a0.bT.map bA.C)])/\m.blk P1=some (Cj W A a1)/\m.ver P0 4=zP0+a0.bT.length/\nK m.hp W A AS LS a1.cC a1.cK a2/\(P0=P1)=False/\(P1=P0)=False/\m.gl 3=.eptr [(cA bW.C dY)] 0 0->SC prog 122 vs q m (fun v m'=>v=.tup []/\m'=(m.fr P0 P1 ((aR.C r.1.p_)++[.lit (.int .i64 r.1.dP),.lit (.int .i64 r.1.fP),.lit (.int .i64 r.1.e_),.list .self (r.1.bT.map bA.C)]) (zP0+r.1.bT.length) (Cj W A r.2.1) (sN m.hp W r.2.1.cC AS r.2.2))/\eG a1 a2 r.2.1 r.2.2)
theorem Av (n:Nat):Bc (iS n):=by
 rintro a0 a1 a2 a3 r h q m vs P0 P1 zP0 W A AS LS ⟨hv,hmP0,hmP1,hvrP0,hkF,hn0_1,hn1_0,hg3⟩;refine SC.wv hv ?_;refine SC.apart hmP0 fun u0=>?_;refine SC.apart hmP1 fun u1=>?_;have l0:=mU hmP0;have l1:=mU hmP1
 try simp only [go_sem] at hmP0 l0
 try simp only [go_sem] at hmP1 l1
 have hfs:=EX hmP0 hvrP0 hmP1;refine dZ func122 call122 ntmps122 results122 ?_;unfold iS at h;refine aM ?_;simp only [go_sem];refine aF ?_;obtain ⟨x2,h7,h⟩:=aA h;obtain ⟨f4,f5,f6⟩:=aX h7;have f8:a3.aP[0]? = some x2:=f6;obtain ⟨x3,h9,h⟩:=aA h;refine dR (o0 [0,1,2,3,4,5,6,7,8,9]) 11 fun K hK=>?_;simp only [go_sem,seval,f4,f5,f8];refine cB (Aw n a0 a1 a2 x2 a3.mD _ h9 _ _ _ P0 P1 zP0 W A AS LS (by simp only [go_sem,seval,cQ u0,cQ u1,hkF,hn0_1,hn1_0,hmP0,hvrP0,hmP1,hg3])) rfl ?_;simp only [go_sem,seval];apply hK;refine aF (aF ?_);obtain ⟨x10,h11,h⟩:=aA h;refine aN fun K hK=>?_;simp only [go_sem,seval];refine SC.by_ (cY x3.2 _ h11 _ _ _ P0 zP0 (by simp only [go_sem,seval])) ?_;simp only [go_sem,seval];apply hK;refine bJ h (fun c12 h=>?_) (fun c12 h=>?_)
 ·refine aQ ?_
  try simp only [aU]
  cases h;refine ⟨by simp,?_⟩;simp only [go_sem,aO,aJ,eU u0,oE hmP1,nK.same hkF,c12]
 ·refine aV ?_
  refine aF ?_;obtain ⟨x13,h18,h⟩:=aA h;obtain ⟨f15,f16,f17⟩:=aX h18;have f19:a3.aP[1]? = some x13:=f17;obtain ⟨x14,h20,h⟩:=aA h;refine aN fun K hK=>?_;simp only [go_sem,seval,cQ u0,c12,f15,f16,f19];refine SC.by_ (fF n x3.2 a1 a2 x13 _ h20 _ _ _ P0 P1 zP0 W A AS LS (by simp only [go_sem,seval,cQ u1,hkF,hn0_1,hn1_0,hmP1,hg3])) ?_;simp only [go_sem,seval];apply hK;refine aF ?_;obtain ⟨x21,h22,h⟩:=aA h;refine aN fun K hK=>?_;simp only [go_sem,seval];refine SC.by_ (cY x14.2 _ h22 _ _ _ P0 zP0 (by simp only [go_sem,seval])) ?_;simp only [go_sem,seval];apply hK;refine bJ h (fun c23 h=>?_) (fun c23 h=>?_)
  ·obtain ⟨x24,h34,h⟩:=aA h;obtain ⟨f31,f32,f33⟩:=aX h34;obtain ⟨w35,d36⟩:=rO (f:=(xB AS LS)) f33;obtain ⟨x25,h40,h⟩:=aA h;obtain ⟨f37,f38,f39⟩:=aX h40;have hx_a_26:=f39;obtain ⟨a_26,d41,d42,ex_a_26,nw_a_26,na_a_26⟩:=nK.get hkF f37 f39;obtain ⟨x27,h46,h⟩:=aA h;obtain ⟨f43,f44,f45⟩:=aX h46;obtain ⟨w47,d48⟩:=rO (f:=By) f45;have f28:x3.1.toNat+1<=x25.length:=by omega
   have kp29:eG a1 a2 a1 (a2.set x24.toNat (x25.set x3.1.toNat (u32.wrap x14.1))):=eG.setA eG.refl hx_a_26 HL;have hk30:nK (sN m.hp W a1.cC AS (a2.set x24.toNat (x25.set x3.1.toNat (u32.wrap x14.1)))) W A AS LS a1.cC a1.cK (a2.set x24.toNat (x25.set x3.1.toNat (u32.wrap x14.1))):=nK.upk hkF kp29;refine dR (o0 [0,1,2,3,4,5,6,7,8,9,10,11,12]) 37 fun K hK=>?_;simp only [go_sem,seval,rG,cQ u0,cQ u1,hkF.a,hn1_0,c23,f31,f32,d36,d41,d42,f43,f44,f28,(nK.setA hkF ex_a_26),hmP1];apply hK;simp only [];cases h;refine ⟨by simp,?_⟩;simp only [go_sem,aO,aJ,iH,eU u0,oE hmP1,kp29]
  ·refine aV ?_;cases h;refine ⟨by simp,?_⟩;simp only [go_sem,aO,aJ,eU u0,oE hmP1,nK.same hkF,c23]
end Go.Proofs.YtncembphlfbgoaaGreatDoor.Abs
