/- Lemmas of ours. -/
import Derived.Test.YtncembphlfbgoaaGreatDoorIPFacts
import Derived.Test.YtncembphlfbgoaaGreatDoorIPVs
namespace Go.Proofs.YtncembphlfbgoaaGreatDoor.Abs
open Go.RowKit Tryz
open IntKind (i64 u32 u64 u8)
set_option linter.unusedVariables false
set_option maxRecDepth 10000
def eJ (a:aJ) (h:List (List Int)) (b:aJ) (k:List (List Int)):Prop:=b.f_=a.f_/\b.cE=a.cE/\b.cC.length=a.cC.length/\k.map List.length=h.map List.length
@[go_sem] theorem eJ.refl {a:aJ} {h:List (List Int)}:eJ a h a h:=⟨rfl,rfl,rfl,rfl⟩
theorem eJ.trans {a b c:aJ} {h k l:List (List Int)} (x:eJ a h b k) (y:eJ b k c l):eJ a h c l:=⟨y.1.trans x.1,y.2.1.trans x.2.1,y.2.2.1.trans x.2.2.1,y.2.2.2.trans x.2.2.2⟩
theorem eJ.setW {a b:aJ} {h k:List (List Int)} (x:eJ a h b k) {n:Nat} {v:Int}:eJ a h { b with cC:=b.cC.set n v } k:=⟨x.1,x.2.1,by rw [GI];exact x.2.2.1,x.2.2.2⟩
theorem eJ.setA {a b:aJ} {h k:List (List Int)} (x:eJ a h b k) {n:Nat} {l l':List Int} (hl:k[n]? = some l) (he:l'.length=l.length):eJ a h b (k.set n l'):=⟨x.1,x.2.1,x.2.2.1,(KY hl he).trans x.2.2.2⟩
theorem eJ.res {a b:aJ} {h k:List (List Int)} (x:eJ a h b k) {v:Int}:eJ a h { b with oP:=v } k:=x
theorem nV.upk {h:Hp} {W A:Pa} {AS:List Pa} {LS:List Nat} {a b:aJ} {hs hs':List (List Int)} (k:nV h W A AS LS a.cC a.cE hs) (x:eJ a hs b hs'):nV (tF h W b.cC AS hs') W A AS LS b.cC b.cE hs':=by rw [x.2.1];exact k.up x.2.2.2
def Ig (f:aR->T_interp_Args->Option Bool):Prop:=∀a0 a1 r,f a0 a1=some r->∀(q:Pa) (m:M) (vs:List V),vs.map V.weak1=[.agg ((aR.C a0)),.agg ((T_interp_Args.C a1))]->SC prog 23 vs q m (fun v Y=>v=.lit (.bool r)/\Y=m)
theorem pL (n:Nat):Ig (mR n):=by
 intro a0 a1 r h q m vs hv;refine SC.wv hv (eD func23 call23 ntmps23 results23 ?_);unfold mR at h;refine aL ?_;refine aL ?_;refine aF (aF ?_);obtain ⟨⟨f3,f4⟩,h⟩:=bP h;refine cH ?_;refine bM ?_;obtain ⟨y9,j9,h⟩:=aA h;refine kX (fun c X Y=>∃v6 v7 v8,pM a0 a1 c v6 v7 v8=some y9/\X 3=.ptr (1::q) 0/\X 5=.lit (.int .i64 v6)/\X 6=.lit (.int .i64 v7)/\X 13=.list .none ((a0.aV.take a0.aW.toNat).map bB.C)/\X 14=.lit (.int .i64 ((a0.aV.take a0.aW.toNat).length:Int))/\X 15=.lit (.int .i64 v8)/\Y.blk (1::q)=some ((T_interp_Args.C a1))/\Y.gl=m.gl/\m.back q Y=m) n ⟨0,0,0,j9,?_⟩ ?_
 ·simp only [go_sem,seval,bF,bK]
 rintro i5 c10 E11 m12 ⟨v6,v7,v8,j9,e13⟩ _
 rcases c10 with _ | c10
 ·cases j9
 rw [pM] at j9;refine aL ?_;refine aF (bH j9 (fun c14 j9=>?_) (fun c14 j9=>?_))
 ·refine aU ?_
  refine aF ?_;obtain ⟨y15,j15,j9⟩:=aA j9;refine fX 29 (fun X Y=>∃(y15a:(Int × Int)),y15=.inl y15a/\X 3=.ptr (1::q) 0/\X 5=.lit (.int .i64 y15a.1)/\X 6=.lit (.int .i64 y15a.2)/\X 13=.list .none ((a0.aV.take a0.aW.toNat).map bB.C)/\X 14=.lit (.int .i64 ((a0.aV.take a0.aW.toNat).length:Int))/\X 15=.lit (.int .i64 v8)/\Y.blk (1::q)=some ((T_interp_Args.C a1))/\Y.gl=m.gl/\m.back q Y=m) ?_ ?_
  ·refine bM (aF ?_);obtain ⟨x16,h21,j15⟩:=aA j15;obtain ⟨f18,f19,f20⟩:=aZ h21;refine cH ?_;refine aF (aL ?_);refine bH j15 (fun c22 j15=>?_) (fun c22 j15=>?_)
   ·refine aF (aF ?_);obtain ⟨y23,j23,j15⟩:=aA j15;refine fX 24 (fun X Y=>X 3=.ptr (1::q) 0/\X 5=.lit (.int .i64 v6)/\X 6=.lit (.int .i64 v7)/\X 13=.list .none ((a0.aV.take a0.aW.toNat).map bB.C)/\X 14=.lit (.int .i64 ((a0.aV.take a0.aW.toNat).length:Int))/\X 15=.lit (.int .i64 v8)/\X 37=.lit (.bool y23)/\Y.blk (1::q)=some ((T_interp_Args.C a1))/\Y.gl=m.gl/\m.back q Y=m) ?_ ?_
    ·rcases dD j23 with ⟨c24,j23⟩ | ⟨c24,j23⟩
     ·refine BN (o0 [0,1,2,3,4,5,6,7,8,9,10,11,12,13,14,15]) 24 ?_;simp only [aK];obtain rfl:=bO j23;exact jD
     ·obtain ⟨x25,h29,j23⟩:=aA j23;obtain ⟨f26,f27,f28⟩:=aZ h29;refine BN (o0 [0,1,2,3,4,5,6,7,8,9,10,11,12,13,14,15]) 24 ?_;simp only [aK];obtain rfl:=bO j23;exact jD
    ·intro E30 m31 e32 _;refine bH j15 (fun c33 j15=>?_) (fun c33 j15=>?_)
     ·refine aL ?_;refine aO ?_
      try simp only [aT,bI]
      obtain rfl:=bO j15;simp only [Es] at j9;obtain rfl:=bO j9;simp only [Es] at h;cases h;exact jS
     ·refine aU ?_
      refine aL ?_;refine dQ ?_
      try simp only [bZ,bR,↓reduceIte,aK]
      obtain rfl:=bO j15;refine ⟨by decide,(v6,(i64.wrap (v7+1))),rfl,?_⟩;simp only [go_sem,seval,e32]
   ·refine aU ?_
    refine aF (aF ?_);obtain ⟨y34,j34,j15⟩:=aA j15;refine fX 26 (fun X Y=>X 3=.ptr (1::q) 0/\X 5=.lit (.int .i64 v6)/\X 6=.lit (.int .i64 v7)/\X 13=.list .none ((a0.aV.take a0.aW.toNat).map bB.C)/\X 14=.lit (.int .i64 ((a0.aV.take a0.aW.toNat).length:Int))/\X 15=.lit (.int .i64 v8)/\X 57=.lit (.bool y34)/\Y.blk (1::q)=some ((T_interp_Args.C a1))/\Y.gl=m.gl/\m.back q Y=m) ?_ ?_
    ·rcases dD j34 with ⟨c35,j34⟩ | ⟨c35,j34⟩
     ·refine cH ?_;obtain rfl:=bO j34;exact jD
     ·
      rcases dD j34 with ⟨c36,j34⟩ | ⟨c36,j34⟩
      ·obtain ⟨x37,h41,j34⟩:=aA j34;obtain ⟨f38,f39,f40⟩:=aZ h41;refine cH ?_;obtain rfl:=bO j34;exact jD
      ·refine aP fun K hK=>?_;simp only [go_sem,seval,c22,c35,c36,e13];apply hK;obtain rfl:=bO j34;exact jD
    ·intro E42 m43 e44 _;refine bH j15 (fun c45 j15=>?_) (fun c45 j15=>?_)
     ·refine aL ?_;refine aO ?_
      try simp only [aT,bI]
      obtain rfl:=bO j15;simp only [Es] at j9;obtain rfl:=bO j9;simp only [Es] at h;cases h;exact jS
     ·refine aU ?_
      refine eR fun K hK=>?_;simp only [go_sem,seval,e44];apply hK;simp only [aK,aQ];obtain rfl:=bO j15;refine ⟨by decide,((i64.wrap (v6+1)),v7),rfl,?_⟩;simp only [go_sem,seval,e44]
  ·rintro E46 m47 ⟨y15a,rfl,e48⟩ _;simp only [GH] at j9;refine cH ?_;refine ⟨c10,xQ _,y15a.1,y15a.2,(i64.wrap (v8+1)),j9,?_⟩;simp only [go_sem,seval,e48]
 ·refine dQ ?_
  try simp only [bZ,bR,↓reduceIte,aK]
  obtain rfl:=bO j9;simp only [GH] at h;refine aF ?_;obtain ⟨y49,j49,h⟩:=aA h;refine fX 26 (fun X Y=>X 4=.lit (.bool y49)/\Y.gl=m.gl/\m.back q Y=m) ?_ ?_
  ·rcases dD j49 with ⟨c50,j49⟩ | ⟨c50,j49⟩
   ·refine aP fun K hK=>?_;simp only [go_sem,seval,c14,c50,e13];apply hK;obtain rfl:=bO j49;exact jD
   ·refine aP fun K hK=>?_;simp only [go_sem,seval,c14,c50,e13];apply hK;obtain rfl:=bO j49;exact jD
  ·intro E51 m52 e53 _;refine aO ?_;cases h;exact jS
def Gu (f:aR->T_interp_Args->T_interp_Args->Option Bool):Prop:=∀a0 a1 a2 r,f a0 a1 a2=some r->∀(q:Pa) (m:M) (vs:List V),vs.map V.weak1=[.agg ((aR.C a0)),.agg ((T_interp_Args.C a1)),.agg ((T_interp_Args.C a2))]->SC prog 24 vs q m (fun v Y=>v=.lit (.bool r)/\Y=m)
theorem rB (n:Nat):Gu (pG n):=by
 intro a0 a1 a2 r h q m vs hv;refine SC.wv hv (eD func24 call24 ntmps24 results24 ?_);unfold pG at h;refine aL ?_;refine aF (aF ?_);obtain ⟨y4,j4,h⟩:=aA h;refine fX 14 (fun X Y=>X 3=.ptr (0::q) 0/\X 4=.ptr (1::q) 0/\X 5=.ptr (2::q) 0/\X 19=.lit (.bool y4)/\Y.blk (0::q)=some ((aR.C a0))/\Y.blk (1::q)=some ((T_interp_Args.C a1))/\Y.blk (2::q)=some ((T_interp_Args.C a2))/\Y.gl=m.gl/\m.back q Y=m) ?_ ?_
 ·obtain ⟨x5,h6,j4⟩:=aA j4
  rcases dD j4 with ⟨c7,j4⟩ | ⟨c7,j4⟩
  ·refine aP fun K hK=>?_;simp only [go_sem,seval];refine SC.bA (pL n a0 a1 _ h6 _ _ _) ?_;simp only [go_sem,seval,c7];apply hK;obtain rfl:=bO j4;exact jD
  ·obtain ⟨x8,h9,j4⟩:=aA j4;refine aP fun K hK=>?_;simp only [go_sem,seval];refine SC.bA (pL n a0 a1 _ h6 _ _ _) ?_;simp only [go_sem,seval,c7];refine SC.bA (pL n a0 a2 _ h9 _ _ _) ?_;simp only [go_sem,seval];apply hK;obtain rfl:=bO j4;exact jD
 ·intro E10 m11 e12 _;refine bH h (fun c13 h=>?_) (fun c13 h=>?_)
  ·refine aL ?_;refine aO ?_
   try simp only [aT]
   cases h;exact jS
  ·refine aU ?_
   refine aL ?_;refine aF (aF ?_);obtain ⟨⟨f14,f15⟩,h⟩:=bP h;refine cH ?_;refine bM ?_;obtain ⟨y19,j19,h⟩:=aA h;refine kX (fun c X Y=>∃v17 v18,lL a0 a1 a2 c v17 v18=some y19/\X 4=.ptr (1::q) 0/\X 5=.ptr (2::q) 0/\X 7=.lit (.int .i64 v17)/\X 24=.list .none ((a0.aV.take a0.aW.toNat).map bB.C)/\X 25=.lit (.int .i64 ((a0.aV.take a0.aW.toNat).length:Int))/\X 26=.lit (.int .i64 v18)/\Y.blk (1::q)=some ((T_interp_Args.C a1))/\Y.blk (2::q)=some ((T_interp_Args.C a2))/\Y.gl=m.gl/\m.back q Y=m) n ⟨0,0,j19,?_⟩ ?_
   ·simp only [go_sem,seval,e12]
   rintro i16 c20 E21 m22 ⟨v17,v18,j19,e23⟩ _
   rcases c20 with _ | c20
   ·cases j19
   rw [lL] at j19;refine aL ?_;refine aF (bH j19 (fun c24 j19=>?_) (fun c24 j19=>?_))
   ·refine aU ?_
    refine aF ?_;obtain ⟨y25,j25,j19⟩:=aA j19;refine fX 27 (fun X Y=>∃(y25a:Int),y25=.inl y25a/\X 4=.ptr (1::q) 0/\X 5=.ptr (2::q) 0/\X 7=.lit (.int .i64 y25a)/\X 24=.list .none ((a0.aV.take a0.aW.toNat).map bB.C)/\X 25=.lit (.int .i64 ((a0.aV.take a0.aW.toNat).length:Int))/\X 26=.lit (.int .i64 v18)/\Y.blk (1::q)=some ((T_interp_Args.C a1))/\Y.blk (2::q)=some ((T_interp_Args.C a2))/\Y.gl=m.gl/\m.back q Y=m) ?_ ?_
    ·refine bM (aF ?_);obtain ⟨x26,h31,j25⟩:=aA j25;obtain ⟨f28,f29,f30⟩:=aZ h31;refine cH ?_;refine aF (aL ?_);refine bH j25 (fun c32 j25=>?_) (fun c32 j25=>?_)
     ·refine dQ ?_
      try simp only [bZ,bR,↓reduceIte,aK]
      obtain rfl:=bO j25;refine ⟨by decide,v17,rfl,?_⟩;simp only [go_sem,seval,bF,c32,e23]
     ·refine aU ?_
      refine aF (aF ?_);obtain ⟨y33,j33,j25⟩:=aA j25;refine fX 24 (fun X Y=>X 4=.ptr (1::q) 0/\X 5=.ptr (2::q) 0/\X 7=.lit (.int .i64 v17)/\X 24=.list .none ((a0.aV.take a0.aW.toNat).map bB.C)/\X 25=.lit (.int .i64 ((a0.aV.take a0.aW.toNat).length:Int))/\X 26=.lit (.int .i64 v18)/\X 48=.lit (.bool y33)/\Y.blk (1::q)=some ((T_interp_Args.C a1))/\Y.blk (2::q)=some ((T_interp_Args.C a2))/\Y.gl=m.gl/\m.back q Y=m) ?_ ?_
      ·rcases dD j33 with ⟨c34,j33⟩ | ⟨c34,j33⟩
       ·obtain ⟨x35,h40,j33⟩:=aA j33;obtain ⟨f37,f38,f39⟩:=aZ h40;obtain ⟨x36,h44,j33⟩:=aA j33;obtain ⟨f41,f42,f43⟩:=aZ h44;refine BN (o0 [0,1,2,3,4,5,6,7,8,9,10,11,12,13,14,15]) 24 ?_;simp only [aK];obtain rfl:=bO j33;exact jD
       ·refine eC (o0 [0,1,2,3,4,5,6,7,8,9,10,11,12,13,14,15]) 24 fun K hK=>?_;simp only [go_sem,seval,c32,c34];apply hK;simp only [aK];obtain rfl:=bO j33;exact jD
      ·intro E45 m46 e47 _;refine bH j25 (fun c48 j25=>?_) (fun c48 j25=>?_)
       ·refine aL ?_;refine aO ?_
        try simp only [aT,bI]
        obtain rfl:=bO j25;simp only [Es] at j19;obtain rfl:=bO j19;simp only [Es] at h;cases h;exact jS
       ·refine aU ?_
        refine eR fun K hK=>?_;simp only [go_sem,seval,e47];apply hK;simp only [aK,aQ];obtain rfl:=bO j25;refine ⟨by decide,(i64.wrap (v17+1)),rfl,?_⟩;simp only [go_sem,seval,e47]
    ·rintro E49 m50 ⟨y25a,rfl,e51⟩ _;simp only [GH] at j19;refine cH ?_;refine ⟨c20,xQ _,y25a,(i64.wrap (v18+1)),j19,?_⟩;simp only [go_sem,seval,e51]
   ·refine dQ ?_
    try simp only [bZ,bR,↓reduceIte,aK]
    obtain rfl:=bO j19;simp only [GH] at h;refine aL ?_;refine aO ?_;cases h;exact jS
def Bp (f:aE->Option Bool):Prop:=∀a0 r,f a0=some r->∀(q:Pa) (m:M) (vs:List V) (P0:Pa) (zP0:Nat),vs.map V.weak1=[.ptr P0 0]/\m.blk P0=some ((aN.C a0.p_)++[.lit (.int .i64 a0.eB),.lit (.int .i64 a0.fQ),.lit (.int .i64 a0.e_),.list .self (a0.bT.map bC.C)])/\m.ver P0 4=zP0+a0.bT.length->SC prog 75 vs q m (fun v Y=>v=.lit (.bool r)/\Y=m)
theorem cW:Bp (bN):=by
 rintro a0 r h q m vs P0 zP0 ⟨hv,hmP0,hvrP0⟩;refine SC.wv hv ?_;refine SC.apart hmP0 fun u0=>?_
 try simp only [go_sem] at hmP0
 refine eD func75 call75 ntmps75 results75 ?_;unfold bN at h;refine aL ?_;refine aF ?_;obtain ⟨y1,j1,h⟩:=aA h;refine fX 14 (fun X Y=>X 2=.lit (.bool y1)/\Y.blk P0=some ((aN.C a0.p_)++[.lit (.int .i64 a0.eB),.lit (.int .i64 a0.fQ),.lit (.int .i64 a0.e_),.list .self (a0.bT.map bC.C)])/\Y.ver P0 4=zP0+a0.bT.length/\Y.gl=m.gl/\m.back q Y=m) ?_ ?_
 ·rcases dD j1 with ⟨c2,j1⟩ | ⟨c2,j1⟩
  ·refine cH ?_;obtain rfl:=bO j1;exact jD
  ·refine cH ?_;obtain rfl:=bO j1;exact jD
 ·intro E3 m4 e5 _;refine aO ?_;cases h;exact jS
def Ch (f:aE->Option aE):Prop:=∀a0 r,f a0=some r->∀(q:Pa) (m:M) (vs:List V) (P0:Pa) (zP0:Nat),vs.map V.weak1=[.ptr P0 0]/\m.blk P0=some ((aN.C a0.p_)++[.lit (.int .i64 a0.eB),.lit (.int .i64 a0.fQ),.lit (.int .i64 a0.e_),.list .self (a0.bT.map bC.C)])/\m.ver P0 4=zP0+a0.bT.length->SC prog 76 vs q m (fun v Y=>v=.tup []/\Y=(m.setv P0 4 ((aN.C r.p_)++[.lit (.int .i64 r.eB),.lit (.int .i64 r.fQ),.lit (.int .i64 r.e_),.list .self (r.bT.map bC.C)]) (zP0+r.bT.length)))
theorem uM:Ch (iH):=by
 rintro a0 r h q m vs P0 zP0 ⟨hv,hmP0,hvrP0⟩;refine SC.wv hv ?_;refine SC.ap hmP0 fun u0 l0=>?_
 try simp only [go_sem] at hmP0 l0
 refine eD func76 call76 ntmps76 results76 ?_;unfold iH at h;refine aF (aL ?_);refine bH h (fun c1 h=>?_) (fun c1 h=>?_)
 ·refine aL ?_;refine aO ?_
  try simp only [aT]
  cases h;refine ⟨by simp,?_⟩;simp only [go_sem,bK,dG u0,lM hvrP0]
 ·refine aU ?_
  refine eR fun K hK=>?_;simp only [go_sem,seval,c1,hmP0];apply hK;simp only [];cases h;refine ⟨by simp,?_⟩;simp only [go_sem,bK,dG u0,lM hvrP0]
def Dd (f:aE->Int->Int->Int->Option aE):Prop:=∀a0 a1 a2 a3 r,f a0 a1 a2 a3=some r->∀(q:Pa) (m:M) (vs:List V) (P0:Pa) (zP0:Nat),vs.map V.weak1=[.ptr P0 0,.lit (.int .i64 a1),.lit (.int .u32 a2),.lit (.int .u32 a3)]/\m.blk P0=some ((aN.C a0.p_)++[.lit (.int .i64 a0.eB),.lit (.int .i64 a0.fQ),.lit (.int .i64 a0.e_),.list .self (a0.bT.map bC.C)])/\m.ver P0 4=zP0+a0.bT.length->SC prog 167 vs q m (fun v Y=>v=.tup []/\Y=(m.setv P0 4 ((aN.C r.p_)++[.lit (.int .i64 r.eB),.lit (.int .i64 r.fQ),.lit (.int .i64 r.e_),.list .self (r.bT.map bC.C)]) (zP0+r.bT.length)))
theorem kC:Dd (eQ):=by
 rintro a0 a1 a2 a3 r h q m vs P0 zP0 ⟨hv,hmP0,hvrP0⟩;refine SC.wv hv ?_;refine SC.ap hmP0 fun u0 l0=>?_
 try simp only [go_sem] at hmP0 l0
 refine eD func167 call167 ntmps167 results167 ?_;unfold eQ at h;obtain ⟨f1,h⟩:=bP h;have f2:a0.bT.length+1<=1073741824:=by first | omega | (simp only [nC,jC,lA] at f1 ⊢;omega)
 have f3:a0.bT.length<=1073741823:=by first | omega | (simp only [nC,jC,lA] at f1 ⊢;omega)
 refine eR fun K hK=>?_;simp only [go_sem,seval,f2,hmP0,hvrP0];apply hK;simp only [];cases h;refine ⟨by simp,?_⟩;simp only [go_sem,cG,bK,dG u0,MQ u0,QK hvrP0,nC,jC,lA,IZ,←Nat.add_assoc]
def Hw (f:cQ->(List Int)->Option (Int × Bool)):Prop:=∀a0 a1 r,f a0 a1=some r->∀(q:Pa) (m:M) (vs:List V),vs.map V.weak1=[.lit (.string (bs a0)),.list .none (a1.map (cI .u64))]->SC prog 165 vs q m (fun v Y=>v=.tup [.lit (.int .u64 r.1),.lit (.bool r.2)]/\Y=m)
theorem Gt:Hw (rU):=by
 intro a0 a1 r h q m vs hv;refine SC.wv hv (eD func165 call165 ntmps165 results165 ?_);unfold rU at h;refine aL ?_;refine aF (aL ?_);refine bM (aL ?_);refine bH h (fun c1 h=>?_) (fun c1 h=>?_)
 ·refine aF (aF ?_);obtain ⟨x2,h6,h⟩:=aA h;obtain ⟨f3,f4,f5⟩:=aZ h6;have f7:a1[0]? = some x2:=f5;refine cH ?_;refine bH h (fun c8 h=>?_) (fun c8 h=>?_)
  ·refine aF ?_;obtain ⟨x9,h13,h⟩:=aA h;obtain ⟨f10,f11,f12⟩:=aZ h13;have f14:a1[1]? = some x9:=f12;refine cH ?_;refine aO ?_
   try simp only [aT,bI]
   cases h;exact jS
  ·refine aU ?_
   refine aF ?_;obtain ⟨x15,h19,h⟩:=aA h;obtain ⟨f16,f17,f18⟩:=aZ h19;have f20:a1[2]? = some x15:=f18;refine cH ?_;refine aO ?_
   try simp only [aT,bI]
   cases h;exact jS
 ·refine aL ?_;refine bH h (fun c21 h=>?_) (fun c21 h=>?_)
  ·refine aF ?_;obtain ⟨x22,h26,h⟩:=aA h;obtain ⟨f23,f24,f25⟩:=aZ h26;have f27:a1[0]? = some x22:=f25;refine cH ?_;refine aO ?_
   try simp only [aT,bI]
   cases h;exact jS
  ·refine aL ?_;refine bH h (fun c28 h=>?_) (fun c28 h=>?_)
   ·refine aF ?_;obtain ⟨x29,h33,h⟩:=aA h;obtain ⟨f30,f31,f32⟩:=aZ h33;have f34:a1[0]? = some x29:=f32;refine cH ?_;refine aO ?_
    try simp only [aT,bI]
    cases h;exact jS
   ·refine aL ?_;refine bH h (fun c35 h=>?_) (fun c35 h=>?_)
    ·refine aF ?_;obtain ⟨x36,h40,h⟩:=aA h;obtain ⟨f37,f38,f39⟩:=aZ h40;have f41:a1[0]? = some x36:=f39;refine aP fun K hK=>?_;simp only [go_sem,seval,c35,f37,f38,f41,(by decide:(0:Int)<=32)];apply hK;refine aO ?_
     try simp only [aT,bI]
     cases h;exact jS
    ·refine aL ?_;refine bH h (fun c42 h=>?_) (fun c42 h=>?_)
     ·refine aF ?_;obtain ⟨x43,h48,h⟩:=aA h;obtain ⟨f45,f46,f47⟩:=aZ h48;have f49:a1[0]? = some x43:=f47;obtain ⟨x44,h53,h⟩:=aA h;obtain ⟨f50,f51,f52⟩:=aZ h53;have f54:a1[1]? = some x44:=f52;refine BN (o0 [0,1,2,3,4,5,6,7,8]) 22 ?_;refine aO ?_
      try simp only [aT,bI]
      cases h;exact jS
     ·refine aU ?_
      try simp only [aK,aQ]
      refine aL ?_;refine aO ?_;cases h;exact jS
def AX (f:Int->Int->Option Int):Prop:=∀a0 a1 r,f a0 a1=some r->∀(q:Pa) (m:M) (vs:List V),vs.map V.weak1=[.lit (.int .u64 a0),.lit (.int .i64 a1)]->SC prog 214 vs q m (fun v Y=>v=.lit (.int .u64 r)/\Y=m)
theorem Af:AX (mJ):=by
 intro a0 a1 r h q m vs hv;refine SC.wv hv (eD func214 call214 ntmps214 results214 ?_);unfold mJ at h;refine aL ?_;refine aL ?_;refine aF ?_;obtain ⟨f1,h⟩:=bP h;obtain ⟨f2,h⟩:=bP h;refine cH ?_;refine aO ?_;cases h;exact jS
def Hv (f:Bool->Option Int):Prop:=∀a0 r,f a0=some r->∀(q:Pa) (m:M) (vs:List V),vs.map V.weak1=[.lit (.bool a0)]->SC prog 215 vs q m (fun v Y=>v=.lit (.int .u64 r)/\Y=m)
theorem CK:Hv (vG):=by
 intro a0 r h q m vs hv;refine SC.wv hv (eD func215 call215 ntmps215 results215 ?_);unfold vG at h;refine aL ?_;refine aF (aL ?_);refine bH h (fun c1 h=>?_) (fun c1 h=>?_)
 ·refine aL ?_;refine aO ?_
  try simp only [aT]
  cases h;exact jS
 ·refine aU ?_
  refine aL ?_;refine aO ?_;cases h;exact jS
def If (f:cQ->Int->Int->Option Int):Prop:=∀a0 a1 a2 r,f a0 a1 a2=some r->∀(q:Pa) (m:M) (vs:List V),vs.map V.weak1=[.lit (.string (bs a0)),.lit (.int .u64 a1),.lit (.int .u64 a2)]->SC prog 195 vs q m (fun v Y=>v=.lit (.int .u64 r)/\Y=m)
theorem DI:If (uQ):=by
 intro a0 a1 a2 r h q m vs hv;refine SC.wv hv (eD func195 call195 ntmps195 results195 ?_);unfold uQ at h;refine aL ?_;refine aF (aL ?_);refine bM (aL ?_);refine bH h (fun c1 h=>?_) (fun c1 h=>?_)
 ·refine aL ?_;refine aO ?_
  try simp only [aT,bI]
  cases h;exact jS
 ·refine aL ?_;refine bH h (fun c2 h=>?_) (fun c2 h=>?_)
  ·refine aL ?_;refine aO ?_
   try simp only [aT,bI]
   cases h;exact jS
  ·refine aL ?_;refine bH h (fun c3 h=>?_) (fun c3 h=>?_)
   ·refine aL ?_;refine aO ?_
    try simp only [aT,bI]
    cases h;exact jS
   ·refine aL ?_;refine bH h (fun c4 h=>?_) (fun c4 h=>?_)
    ·refine aL ?_;refine aO ?_
     try simp only [aT,bI]
     cases h;exact jS
    ·refine aL ?_;refine bH h (fun c5 h=>?_) (fun c5 h=>?_)
     ·refine aL ?_;refine aO ?_
      try simp only [aT,bI]
      cases h;exact jS
     ·refine aL ?_;refine bH h (fun c6 h=>?_) (fun c6 h=>?_)
      ·refine aF ?_;obtain ⟨f7,h⟩:=bP h;refine cH ?_;refine aO ?_
       try simp only [aT,bI]
       cases h;exact jS
      ·refine aL ?_;refine bH h (fun c8 h=>?_) (fun c8 h=>?_)
       ·refine aF ?_;obtain ⟨f9,h⟩:=bP h;refine cH ?_;refine aO ?_
        try simp only [aT,bI]
        cases h;exact jS
       ·refine aL ?_;refine bH h (fun c10 h=>?_) (fun c10 h=>?_)
        ·refine aF ?_;obtain ⟨x11,h12,h⟩:=aA h;refine aP fun K hK=>?_;simp only [go_sem,seval,c10];refine SC.bA (Af a1 (i64.wrap a2) _ h12 _ _ _) ?_;simp only [go_sem,seval];apply hK;refine aO ?_
         try simp only [aT,bI]
         cases h;exact jS
        ·refine aL ?_;refine bH h (fun c13 h=>?_) (fun c13 h=>?_)
         ·refine aF ?_;obtain ⟨x14,h15,h⟩:=aA h;refine aP fun K hK=>?_;simp only [go_sem,seval,c13];refine SC.bA (CK (a1 == a2) _ h15 _ _ _) ?_;simp only [go_sem,seval];apply hK;refine aO ?_
          try simp only [aT,bI]
          cases h;exact jS
         ·refine aL ?_;refine bH h (fun c16 h=>?_) (fun c16 h=>?_)
          ·refine aF ?_;obtain ⟨x17,h18,h⟩:=aA h;refine aP fun K hK=>?_;simp only [go_sem,seval,c16];refine SC.bA (CK (decide (a1<a2)) _ h18 _ _ _) ?_;simp only [go_sem,seval];apply hK;refine aO ?_
           try simp only [aT,bI]
           cases h;exact jS
          ·refine aL ?_;refine bH h (fun c19 h=>?_) (fun c19 h=>?_)
           ·refine aL ?_;refine aO ?_
            try simp only [aT,bI]
            cases h;exact jS
           ·refine aU ?_
            try simp only [aK,aQ]
            refine aL ?_;refine aO ?_;cases h;exact jS
def Ll (f:cQ->Option Int):Prop:=∀a0 r,f a0=some r->∀(q:Pa) (m:M) (vs:List V),vs.map V.weak1=[.lit (.string (bs a0))]/\m.gl 3=.eptr [(cA bY.C dR)] 0 0->SC prog 196 vs q m (fun v Y=>v=.lit (.int .i64 r)/\Y=m)
theorem xY (n:Nat):Ll (sE n):=by
 rintro a0 r h q m vs ⟨hv,hg3⟩;refine SC.wv hv (eD func196 call196 ntmps196 results196 ?_);unfold sE at h;refine aL ?_;refine aF (aL ?_);refine bM ?_;obtain ⟨y3,j3,h⟩:=aA h;refine kX (fun c X Y=>∃v2,qF a0 c v2=some y3/\X 0=.lit (.string (bs a0))/\X 5=.agg ((cA bY.C dR))/\X 6=.lit (.int .i64 v2)/\Y.gl=m.gl/\m.back q Y=m) n ⟨0,j3,?_⟩ ?_
 ·simp only [go_sem,seval,bK]
 rintro i1 c4 E5 m6 ⟨v2,j3,e7⟩ _
 rcases c4 with _ | c4
 ·cases j3
 rw [qF] at j3;refine aL ?_;refine aF (bH j3 (fun c8 j3=>?_) (fun c8 j3=>?_))
 ·refine aU ?_
  refine aF (bM (aF ?_));obtain ⟨x9,h14,j3⟩:=aA j3;obtain ⟨f11,f12,f13⟩:=aZ h14;have f15:v2<15:=f12;obtain ⟨w16,d17⟩:=CA (f:=bY.C) (s:=2) (fun _ _=>rfl) f13;simp only [go_sem] at d17;refine aP fun K hK=>?_;simp only [go_sem,seval,f11,f15,d17,e7];apply hK;refine aL ?_;refine bH j3 (fun c18 j3=>?_) (fun c18 j3=>?_)
  ·refine aL ?_;refine aO ?_
   try simp only [aT,bI]
   obtain rfl:=bO j3;simp only [Es] at h;cases h;exact jS
  ·refine aU ?_
   try simp only [aK,aQ]
   refine cH ?_;refine ⟨c4,xQ _,(i64.wrap (v2+1)),j3,?_⟩;simp only [go_sem,seval,bF,e7]
 ·refine dQ ?_
  try simp only [bZ,bR,↓reduceIte,aK]
  obtain rfl:=bO j3;simp only [GH] at h;refine aL ?_;refine aO ?_;cases h;exact jS
def Od (f:Int->Option aY):Prop:=∀a0 r,f a0=some r->∀(q:Pa) (m:M) (vs:List V),vs.map V.weak1=[.lit (.int .u32 a0)]->SC prog 197 vs q m (fun v Y=>v=.agg ((aY.C r))/\Y=m)
theorem BR:Od (BS):=by
 intro a0 r h q m vs hv;refine SC.wv hv (eD func197 call197 ntmps197 results197 ?_);unfold BS at h;refine aL ?_;refine aL ?_;refine aO ?_;cases h;exact jS
def Kt (f:aY->(List Int)->Option Int):Prop:=∀a0 a1 r,f a0 a1=some r->∀(q:Pa) (m:M) (vs:List V),vs.map V.weak1=[.agg ((aY.C a0)),.list .none (a1.map (cI .u32))]->SC prog 216 vs q m (fun v Y=>v=.lit (.int .u32 r)/\Y=m)
theorem Jf:Kt (FD):=by
 intro a0 a1 r h q m vs hv;refine SC.wv hv (eD func216 call216 ntmps216 results216 ?_);unfold FD at h;refine aL ?_;refine aF (aL ?_);refine bH h (fun c2 h=>?_) (fun c2 h=>?_)
 ·refine aL ?_;refine aO ?_
  try simp only [aT]
  cases h;exact jS
 ·refine aU ?_
  refine aF (aL ?_);refine bH h (fun c3 h=>?_) (fun c3 h=>?_)
  ·refine aF ?_;obtain ⟨x4,h8,h⟩:=aA h;obtain ⟨f5,f6,f7⟩:=aZ h8;refine cH ?_;refine aO ?_
   try simp only [aT]
   cases h;exact jS
  ·refine aU ?_
   refine aL ?_;refine aO ?_;cases h;exact jS
def Jc (f:Bool->Option Int):Prop:=∀a0 r,f a0=some r->∀(q:Pa) (m:M) (vs:List V),vs.map V.weak1=[.lit (.bool a0)]->SC prog 217 vs q m (fun v Y=>v=.lit (.int .u32 r)/\Y=m)
theorem Aw:Jc (vZ):=by
 intro a0 r h q m vs hv;refine SC.wv hv (eD func217 call217 ntmps217 results217 ?_);unfold vZ at h;refine aL ?_;refine aF (aL ?_);refine bH h (fun c1 h=>?_) (fun c1 h=>?_)
 ·refine aL ?_;refine aO ?_
  try simp only [aT]
  cases h;exact jS
 ·refine aU ?_
  refine aL ?_;refine aO ?_;cases h;exact jS
def LV (f:Int->Int->Option Int):Prop:=∀a0 a1 r,f a0 a1=some r->∀(q:Pa) (m:M) (vs:List V),vs.map V.weak1=[.lit (.int .i64 a0),.lit (.int .u32 a1)]->SC prog 218 vs q m (fun v Y=>v=.lit (.int .u32 r)/\Y=m)
theorem Ks:LV (ES):=by
 intro a0 a1 r h q m vs hv;refine SC.wv hv (eD func218 call218 ntmps218 results218 ?_);unfold ES at h;refine aL ?_;refine aF (aL ?_);refine bH h (fun c1 h=>?_) (fun c1 h=>?_)
 ·refine aL ?_;refine aO ?_
  try simp only [aT]
  cases h;exact jS
 ·refine aU ?_
  refine aL ?_;refine aO ?_;cases h;exact jS
def AY (f:Int->Int->Option Int):Prop:=∀a0 a1 r,f a0 a1=some r->∀(q:Pa) (m:M) (vs:List V),vs.map V.weak1=[.lit (.int .u32 a0),.lit (.int .i64 a1)]->SC prog 232 vs q m (fun v Y=>v=.lit (.int .u32 r)/\Y=m)
theorem Ag:AY (mK):=by
 intro a0 a1 r h q m vs hv;refine SC.wv hv (eD func232 call232 ntmps232 results232 ?_);unfold mK at h;refine aL ?_;refine aL ?_;refine aF ?_;obtain ⟨f1,h⟩:=bP h;obtain ⟨f2,h⟩:=bP h;refine cH ?_;refine aO ?_;cases h;exact jS
def Je (f:Int->Int->Int->Option Int):Prop:=∀a0 a1 a2 r,f a0 a1 a2=some r->∀(q:Pa) (m:M) (vs:List V),vs.map V.weak1=[.lit (.int .i64 a0),.lit (.int .u32 a1),.lit (.int .u32 a2)]->SC prog 230 vs q m (fun v Y=>v=.lit (.int .u32 r)/\Y=m)
theorem HX:Je (yM):=by
 intro a0 a1 a2 r h q m vs hv;refine SC.wv hv (eD func230 call230 ntmps230 results230 ?_);unfold yM at h;refine aL ?_;refine aF (aL ?_);refine bM (aL ?_);refine bH h (fun c1 h=>?_) (fun c1 h=>?_)
 ·refine aL ?_;refine aO ?_
  try simp only [aT,bI]
  cases h;exact jS
 ·refine aL ?_;refine bH h (fun c2 h=>?_) (fun c2 h=>?_)
  ·refine aL ?_;refine aO ?_
   try simp only [aT,bI]
   cases h;exact jS
  ·refine aL ?_;refine bH h (fun c3 h=>?_) (fun c3 h=>?_)
   ·refine aL ?_;refine aO ?_
    try simp only [aT,bI]
    cases h;exact jS
   ·refine aL ?_;refine bH h (fun c4 h=>?_) (fun c4 h=>?_)
    ·refine aF ?_;obtain ⟨f5,h⟩:=bP h;refine cH ?_;refine aO ?_
     try simp only [aT,bI]
     cases h;exact jS
    ·refine aL ?_;refine bH h (fun c6 h=>?_) (fun c6 h=>?_)
     ·refine aF ?_;obtain ⟨f7,h⟩:=bP h;refine cH ?_;refine aO ?_
      try simp only [aT,bI]
      cases h;exact jS
     ·refine aU ?_
      try simp only [aK,aQ]
      refine aF ?_;obtain ⟨x8,h9,h⟩:=aA h;refine aP fun K hK=>?_;simp only [go_sem,seval,c6];refine SC.bA (Ag a1 (i64.wrap (vT .u32 a2 31)) _ h9 _ _ _) ?_;simp only [go_sem,seval];apply hK;refine aO ?_;cases h;exact jS
def LU (f:Int->Int->Int->Option (Int × Bool)):Prop:=∀a0 a1 a2 r,f a0 a1 a2=some r->∀(q:Pa) (m:M) (vs:List V),vs.map V.weak1=[.lit (.int .i64 a0),.lit (.int .u32 a1),.lit (.int .u32 a2)]->SC prog 219 vs q m (fun v Y=>v=.tup [.lit (.int .u32 r.1),.lit (.bool r.2)]/\Y=m)
theorem Kr:LU (yL):=by
 intro a0 a1 a2 r h q m vs hv;refine SC.wv hv (eD func219 call219 ntmps219 results219 ?_);unfold yL at h;refine aL ?_;refine aF (aL ?_);refine bM (aL ?_);refine bH h (fun c1 h=>?_) (fun c1 h=>?_)
 ·refine aF ?_;obtain ⟨x2,h3,h⟩:=aA h;refine aP fun K hK=>?_;simp only [go_sem,seval,c1];refine SC.bA (Aw (a1 == a2) _ h3 _ _ _) ?_;simp only [go_sem,seval];apply hK;refine aO ?_
  try simp only [aT,bI]
  cases h;exact jS
 ·refine aL ?_;refine bH h (fun c4 h=>?_) (fun c4 h=>?_)
  ·refine aF ?_;obtain ⟨x5,h6,h⟩:=aA h;refine aP fun K hK=>?_;simp only [go_sem,seval,c4];refine SC.bA (Aw (decide (a1<a2)) _ h6 _ _ _) ?_;simp only [go_sem,seval];apply hK;refine aO ?_
   try simp only [aT,bI]
   cases h;exact jS
  ·refine aL ?_;refine bH h (fun c7 h=>?_) (fun c7 h=>?_)
   ·refine aL ?_;refine aO ?_
    try simp only [aT,bI]
    cases h;exact jS
   ·refine aL ?_;refine bH h (fun c8 h=>?_) (fun c8 h=>?_)
    ·refine aL ?_;refine aO ?_
     try simp only [aT,bI]
     cases h;exact jS
    ·refine aL ?_;refine bH h (fun c9 h=>?_) (fun c9 h=>?_)
     ·refine aL ?_;refine aO ?_
      try simp only [aT,bI]
      cases h;exact jS
     ·refine aF (aL ?_);refine bH h (fun c10 h=>?_) (fun c10 h=>?_)
      ·refine aU ?_
       refine iF true (by simp only [go_sem,seval,c10]) ?_;simp only [↓reduceIte];refine aF (aL ?_);refine bH h (fun c11 h=>?_) (fun c11 h=>?_)
       ·refine aL ?_;refine aO ?_
        try simp only [aT,bI]
        cases h;exact jS
       ·refine aU ?_
        refine aF (sW ?_);simp only [go_sem,seval,c10,c11];refine iF true (by simp only [go_sem,seval]) ?_;simp only [↓reduceIte];refine aF ?_;obtain ⟨f12,h⟩:=bP h;refine cH ?_;refine aO ?_
        try simp only [aT,bI]
        cases h;exact jS
      ·refine cH ?_;refine bH h (fun c13 h=>?_) (fun c13 h=>?_)
       ·refine aF (aL ?_);refine bH h (fun c14 h=>?_) (fun c14 h=>?_)
        ·refine aL ?_;refine aO ?_
         try simp only [aT,bI]
         cases h;exact jS
        ·refine aU ?_
         refine aF (sW ?_);simp only [go_sem,seval,c10,c14];refine iF false (by simp only [go_sem,seval]) ?_;simp only [↓reduceIte,yI];refine aU ?_
         refine aF ?_;obtain ⟨f15,h⟩:=bP h;refine cH ?_;refine aO ?_
         try simp only [aT,bI]
         cases h;exact jS
       ·refine aU ?_
        try simp only [aK,aQ]
        refine aF ?_;obtain ⟨x16,h17,h⟩:=aA h;refine aP fun K hK=>?_;simp only [go_sem,seval,c13];refine SC.bA (HX a0 a1 a2 _ h17 _ _ _) ?_;simp only [go_sem,seval];apply hK;refine aO ?_;cases h;exact jS
def Dp (f:aY->(List Int)->Option (Int × Bool)):Prop:=∀a0 a1 r,f a0 a1=some r->∀(q:Pa) (m:M) (vs:List V),vs.map V.weak1=[.agg ((aY.C a0)),.list .none (a1.map (cI .u32))]->SC prog 198 vs q m (fun v Y=>v=.tup [.lit (.int .u32 r.1),.lit (.bool r.2)]/\Y=m)
theorem GU {tP} (DJ:Dp tP) (n:Nat):Dp (qB tP n):=by
 intro a0 a1 r h q m vs hv;refine SC.wv hv (eD func198 call198 ntmps198 results198 ?_);unfold qB at h;refine aL ?_;refine aF (aL ?_);refine bH h (fun c2 h=>?_) (fun c2 h=>?_)
 ·refine aF ?_;obtain ⟨x3,h4,h⟩:=aA h;refine aP fun K hK=>?_;simp only [go_sem,seval,c2];refine SC.bA (Jf a0 a1 _ h4 _ _ _) ?_;simp only [go_sem,seval];apply hK;refine aO ?_
  try simp only [aT]
  cases h;exact jS
 ·refine aU ?_
  refine aF ?_;obtain ⟨x5,h10,h⟩:=aA h;obtain ⟨f7,f8,f9⟩:=aZ h10;have f11:a0.aM[0]? = some x5:=f9;obtain ⟨x6,h12,h⟩:=aA h;refine aP fun K hK=>?_;simp only [go_sem,seval,c2,f7,f8,f11];refine SC.bA (DJ x5 a1 _ h12 _ _ _) ?_;simp only [go_sem,seval];apply hK;refine aF (aF ?_);obtain ⟨y13,j13,h⟩:=aA h;refine fX 26 (fun X Y=>X 1=.list .none (a1.map (cI .u32))/\X 2=.ptr (0::q) 0/\X 6=.lit (.int .u32 x6.1)/\X 7=.lit (.bool x6.2)/\X 32=.lit (.bool y13)/\Y.blk (0::q)=some ((aY.C a0))/\Y.gl=m.gl/\m.back q Y=m) ?_ ?_
  ·rcases dD j13 with ⟨c14,j13⟩ | ⟨c14,j13⟩
   ·refine cH ?_;obtain rfl:=bO j13;exact jD
   ·refine cH ?_;obtain rfl:=bO j13;exact jD
  ·intro E15 m16 e17 _;refine bH h (fun c18 h=>?_) (fun c18 h=>?_)
   ·refine aF ?_;obtain ⟨x19,h21,h⟩:=aA h;obtain ⟨x20,h22,h⟩:=aA h;refine eC [(0,0),(1,0),(2,0),(3,1),(4,0),(5,0),(6,0),(7,0),(8,0),(9,0)] 36 fun K hK=>?_;simp only [go_sem,seval,e17];refine sF (Aw x6.2 _ h21 _ _ _) ?_;simp only [go_sem,seval,e17];refine sF (Ks a0.kL x6.1 _ h22 _ _ _) ?_;simp only [go_sem,seval,e17];apply hK;refine aO ?_
    try simp only [aT]
    cases h;exact jS
   ·refine aU ?_
    refine aF ?_;obtain ⟨x23,h28,h⟩:=aA h;obtain ⟨f25,f26,f27⟩:=aZ h28;have f29:a0.aM[1]? = some x23:=f27;obtain ⟨x24,h30,h⟩:=aA h;refine aP fun K hK=>?_;simp only [go_sem,seval,f25,f26,f29,e17];refine SC.bA (DJ x23 a1 _ h30 _ _ _) ?_;simp only [go_sem,seval];apply hK;refine aF (aL ?_);refine bH h (fun c31 h=>?_) (fun c31 h=>?_)
    ·refine aL ?_;refine aO ?_
     try simp only [aT]
     cases h;exact jS
    ·refine aU ?_
     refine aF ?_;obtain ⟨x32,h33,h⟩:=aA h;refine aP fun K hK=>?_;simp only [go_sem,seval,c31,e17];refine SC.bA (Kr a0.kL x6.1 x24.1 _ h33 _ _ _) ?_;simp only [go_sem,seval];apply hK;refine aO ?_;cases h;exact jS
theorem vB:∀n,Dp (jE n)
 | 0=>fun _ _ _ h=>fM h
 | n+1=>GU (vB n) n
def zU (f:aE->aG->(List Int)->Option (Int × aE)):Prop:=∀a0 a1 a2 r,f a0 a1 a2=some r->∀(q:Pa) (m:M) (vs:List V) (P0:Pa) (zP0:Nat),vs.map V.weak1=[.ptr P0 0,.agg ((aG.C a1)),.list .none (a2.map (cI .u64))]/\m.blk P0=some ((aN.C a0.p_)++[.lit (.int .i64 a0.eB),.lit (.int .i64 a0.fQ),.lit (.int .i64 a0.e_),.list .self (a0.bT.map bC.C)])/\m.ver P0 4=zP0+a0.bT.length/\m.gl 3=.eptr [(cA bY.C dR)] 0 0->SC prog 166 vs q m (fun v Y=>v=.lit (.int .u64 r.1)/\Y=(m.setv P0 4 ((aN.C r.2.p_)++[.lit (.int .i64 r.2.eB),.lit (.int .i64 r.2.fQ),.lit (.int .i64 r.2.e_),.list .self (r.2.bT.map bC.C)]) (zP0+r.2.bT.length)))
theorem yU (n:Nat):zU (eG n):=by
 rintro a0 a1 a2 r h q m vs P0 zP0 ⟨hv,hmP0,hvrP0,hg3⟩;refine SC.wv hv ?_;refine SC.ap hmP0 fun u0 l0=>?_
 try simp only [go_sem] at hmP0 l0
 refine eD func166 call166 ntmps166 results166 ?_;unfold eG at h;refine aL ?_;refine aF ?_;obtain ⟨y2,j2,h⟩:=aA h;refine fX 15 (fun X Y=>X 0=.ptr P0 0/\X 2=.list .none (a2.map (cI .u64))/\X 4=.ptr (0::q) 0/\X 7=.lit (.bool y2)/\Y.blk P0=some ((aN.C a0.p_)++[.lit (.int .i64 a0.eB),.lit (.int .i64 a0.fQ),.lit (.int .i64 a0.e_),.list .self (a0.bT.map bC.C)])/\Y.blk (0::q)=some ((aG.C a1))/\Y.ver P0 4=zP0+a0.bT.length/\Y.gl=m.gl/\m.back q Y=(m.setv P0 4 ((aN.C a0.p_)++[.lit (.int .i64 a0.eB),.lit (.int .i64 a0.fQ),.lit (.int .i64 a0.e_),.list .self (a0.bT.map bC.C)]) (zP0+a0.bT.length))) ?_ ?_
 ·rcases dD j2 with ⟨c3,j2⟩ | ⟨c3,j2⟩
  ·obtain ⟨x4,h8,j2⟩:=aA j2;obtain ⟨f5,f6,f7⟩:=aZ h8;have f9:a1.aM[0]? = some x4:=f7;refine cH ?_;obtain rfl:=bO j2;refine ⟨by decide,?_⟩;simp only [go_sem,seval,bF,bK,l0,lM hvrP0,hvrP0,gZ u0,hmP0]
  ·refine aP fun K hK=>?_;simp only [go_sem,seval,c3];apply hK;obtain rfl:=bO j2;refine ⟨by decide,?_⟩;simp only [go_sem,seval,bF,bK,l0,lM hvrP0,hvrP0,gZ u0,hmP0]
 ·intro E10 m11 e12 _;refine aL ?_;refine aF (aL ?_);refine bH h (fun c13 h=>?_) (fun c13 h=>?_)
  ·obtain ⟨x14,h18,h⟩:=aA h;obtain ⟨f15,f16,f17⟩:=aZ h18;have f19:a2[1]? = some x14:=f17;refine cH ?_;refine aF (aL ?_);refine bH h (fun c20 h=>?_) (fun c20 h=>?_)
   ·refine aF ?_;obtain ⟨x21,h26,h⟩:=aA h;obtain ⟨f23,f24,f25⟩:=aZ h26;have f27:a2[0]? = some x21:=f25;obtain ⟨x22,h28,h⟩:=aA h;refine eC (o0 [0,1,2,3,4,5,6,7]) 32 fun K hK=>?_;simp only [go_sem,seval,c20,f23,f24,f27,e12];refine sF (DI a1.kL x21 x14 _ h28 _ _ _) ?_;simp only [go_sem,seval];apply hK;refine aO ?_
    try simp only [aT]
    cases h;refine ⟨by simp,?_⟩;simp only [go_sem,seval,l0,lM hvrP0,e12]
   ·refine aU ?_
    refine aF (aF ?_);obtain ⟨y29,j29,h⟩:=aA h;refine fX 32 (fun X Y=>X 0=.ptr P0 0/\X 2=.list .none (a2.map (cI .u64))/\X 4=.ptr (0::q) 0/\X 8=.lit (.int .u64 x14)/\X 47=.lit (.bool y29)/\Y.blk P0=some ((aN.C a0.p_)++[.lit (.int .i64 a0.eB),.lit (.int .i64 a0.fQ),.lit (.int .i64 a0.e_),.list .self (a0.bT.map bC.C)])/\Y.blk (0::q)=some ((aG.C a1))/\Y.ver P0 4=zP0+a0.bT.length/\Y.gl=m.gl/\m.back q Y=(m.setv P0 4 ((aN.C a0.p_)++[.lit (.int .i64 a0.eB),.lit (.int .i64 a0.fQ),.lit (.int .i64 a0.e_),.list .self (a0.bT.map bC.C)]) (zP0+a0.bT.length))) ?_ ?_
    ·rcases dD j29 with ⟨c30,j29⟩ | ⟨c30,j29⟩
     ·refine cH ?_;obtain rfl:=bO j29;refine ⟨by decide,?_⟩;simp only [go_sem,seval,l0,lM hvrP0,e12]
     ·refine cH ?_;obtain rfl:=bO j29;refine ⟨by decide,?_⟩;simp only [go_sem,seval,l0,lM hvrP0,e12]
    ·intro E31 m32 e33 _;refine bH h (fun c34 h=>?_) (fun c34 h=>?_)
     ·obtain ⟨x35,h40,h⟩:=aA h;obtain ⟨f37,f38,f39⟩:=aZ h40;have f41:a2[0]? = some x35:=f39;obtain ⟨x36,h42,h⟩:=aA h;refine aP fun K hK=>?_;simp only [go_sem,seval,f37,f38,f41,e33];refine SC.bA (kC a0 4 (u32.wrap x35) (u32.wrap x14) _ h42 _ _ _ P0 zP0) ?_;simp only [go_sem,seval];apply hK;refine aF ?_;obtain ⟨x43,h45,h⟩:=aA h;refine aP fun K hK=>?_;simp only [go_sem,seval,gZ u0,e33];refine SC.bA (xY n a1.kL _ h45 _ _ _) ?_;simp only [go_sem,seval];apply hK;refine aF (aL ?_);refine bM ?_;obtain ⟨y49,j49,h⟩:=aA h;refine kX (fun c X Y=>∃v47 v48,mC a2 c v47 v48=some y49/\X 0=.ptr P0 0/\X 9=.ptr (44::q) 0/\X 60=.list .none (a2.map (cI .u64))/\X 61=.lit (.int .i64 (a2.length:Int))/\X 62=.lit (.int .i64 v47)/\Y.blk P0=some ((aN.C x36.p_)++[.lit (.int .i64 x36.eB),.lit (.int .i64 x36.fQ),.lit (.int .i64 x36.e_),.list .self (x36.bT.map bC.C)])/\Y.blk (44::q)=some ([.lit (.int .i64 v48.kL),.lit (.int .u32 v48.N_),.list .self (v48.aM.map aY.C)])/\Y.ver P0 4=zP0+x36.bT.length/\Y.gl=m.gl/\m.back q Y=(m.setv P0 4 ((aN.C x36.p_)++[.lit (.int .i64 x36.eB),.lit (.int .i64 x36.fQ),.lit (.int .i64 x36.e_),.list .self (x36.bT.map bC.C)]) (zP0+x36.bT.length))) n ⟨0,(aY.mk x43 0 []),j49,?_⟩ ?_
      ·simp only [go_sem,seval,bF,dB,l0,eX u0,lM hvrP0,gZ u0,e33]
      rintro i46 c50 E51 m52 ⟨v47,v48,j49,e53⟩ _
      rcases c50 with _ | c50
      ·cases j49
      rw [mC] at j49;refine aL ?_;refine aF (bH j49 (fun c54 j49=>?_) (fun c54 j49=>?_))
      ·refine aU ?_
       refine aF (bM (aF ?_));obtain ⟨x55,h59,j49⟩:=aA j49;obtain ⟨f56,f57,f58⟩:=aZ h59;refine cH ?_;obtain ⟨x60,h61,j49⟩:=aA j49;obtain ⟨f62,j49⟩:=bP j49;have f63:v48.aM.length+1<=1073741824:=by first | omega | (simp only [nC,jC,lA] at f62 ⊢;omega)
       have f64:v48.aM.length<=1073741823:=by first | omega | (simp only [nC,jC,lA] at f62 ⊢;omega)
       refine eC [(2,0),(3,0),(4,0),(0,0),(1,1),(5,0),(6,0),(7,0),(8,0)] 13 fun K hK=>?_;simp only [go_sem,seval];refine sF (BR (u32.wrap x55) _ h61 _ _ _) ?_;simp only [go_sem,seval,f63,e53];apply hK;simp only [aK,aQ];refine cH ?_;refine ⟨c50,xQ _,(i64.wrap (v47+1)),({ v48 with aM:=(v48.aM++[x60]) }:aY),j49,?_⟩;simp only [go_sem,seval,bF,dB,cG,gZ u0,e53]
      ·refine dQ ?_
       try simp only [bZ,bR,↓reduceIte,aK]
       obtain rfl:=bO j49;refine aF ?_;obtain ⟨x65,h66,h⟩:=aA h;refine aP fun K hK=>?_;simp only [go_sem,seval,c54,e53];refine SC.bA (vB n v48 [] _ h66 _ _ _) ?_;simp only [go_sem,seval];apply hK;refine aF (aL ?_);refine bH h (fun c67 h=>?_) (fun c67 h=>?_)
       ·refine cH ?_;refine aL ?_;refine aO ?_;cases h;exact jS
       ·refine aU ?_
        refine aL ?_;refine aO ?_;cases h;exact jS
     ·refine aU ?_
      refine aF ?_;obtain ⟨x71,h73,h⟩:=aA h;refine aP fun K hK=>?_;simp only [go_sem,seval,e33];refine SC.bA (xY n a1.kL _ h73 _ _ _) ?_;simp only [go_sem,seval];apply hK;refine aF (aL ?_);refine bM ?_;obtain ⟨y77,j77,h⟩:=aA h;refine kX (fun c X Y=>∃v75 v76,jU a2 c v75 v76=some y77/\X 0=.ptr P0 0/\X 9=.ptr (36::q) 0/\X 60=.list .none (a2.map (cI .u64))/\X 61=.lit (.int .i64 (a2.length:Int))/\X 62=.lit (.int .i64 v75)/\Y.blk P0=some ((aN.C a0.p_)++[.lit (.int .i64 a0.eB),.lit (.int .i64 a0.fQ),.lit (.int .i64 a0.e_),.list .self (a0.bT.map bC.C)])/\Y.blk (36::q)=some ([.lit (.int .i64 v76.kL),.lit (.int .u32 v76.N_),.list .self (v76.aM.map aY.C)])/\Y.ver P0 4=zP0+a0.bT.length/\Y.gl=m.gl/\m.back q Y=(m.setv P0 4 ((aN.C a0.p_)++[.lit (.int .i64 a0.eB),.lit (.int .i64 a0.fQ),.lit (.int .i64 a0.e_),.list .self (a0.bT.map bC.C)]) (zP0+a0.bT.length))) n ⟨0,(aY.mk x71 0 []),j77,?_⟩ ?_
      ·simp only [go_sem,seval,bF,dB,l0,lM hvrP0,gZ u0,e33]
      rintro i74 c78 E79 m80 ⟨v75,v76,j77,e81⟩ _
      rcases c78 with _ | c78
      ·cases j77
      rw [jU] at j77;refine aL ?_;refine aF (bH j77 (fun c82 j77=>?_) (fun c82 j77=>?_))
      ·refine aU ?_
       refine aF (bM (aF ?_));obtain ⟨x83,h87,j77⟩:=aA j77;obtain ⟨f84,f85,f86⟩:=aZ h87;refine cH ?_;obtain ⟨x88,h89,j77⟩:=aA j77;obtain ⟨f90,j77⟩:=bP j77;have f91:v76.aM.length+1<=1073741824:=by first | omega | (simp only [nC,jC,lA] at f90 ⊢;omega)
       have f92:v76.aM.length<=1073741823:=by first | omega | (simp only [nC,jC,lA] at f90 ⊢;omega)
       refine eC [(2,0),(3,0),(4,0),(0,0),(1,1),(5,0),(6,0),(7,0),(8,0)] 13 fun K hK=>?_;simp only [go_sem,seval];refine sF (BR (u32.wrap x83) _ h89 _ _ _) ?_;simp only [go_sem,seval,f91,e81];apply hK;simp only [aK,aQ];refine cH ?_;refine ⟨c78,xQ _,(i64.wrap (v75+1)),({ v76 with aM:=(v76.aM++[x88]) }:aY),j77,?_⟩;simp only [go_sem,seval,bF,dB,cG,l0,lM hvrP0,gZ u0,e81]
      ·refine dQ ?_
       try simp only [bZ,bR,↓reduceIte,aK]
       obtain rfl:=bO j77;refine aF ?_;obtain ⟨x93,h94,h⟩:=aA h;refine aP fun K hK=>?_;simp only [go_sem,seval,c82,e81];refine SC.bA (vB n v76 [] _ h94 _ _ _) ?_;simp only [go_sem,seval];apply hK;refine aF (aL ?_);refine bH h (fun c95 h=>?_) (fun c95 h=>?_)
       ·refine cH ?_;refine aL ?_;refine aO ?_;cases h;refine ⟨by simp,?_⟩;simp only [go_sem,seval,dG u0,l0,lM hvrP0,e81]
       ·refine aU ?_
        refine aL ?_;refine aO ?_;cases h;refine ⟨by simp,?_⟩;simp only [go_sem,seval,l0,lM hvrP0,e81]
  ·refine aU ?_
   refine aF (aL ?_);refine bH h (fun c99 h=>?_) (fun c99 h=>?_)
   ·refine aF ?_;obtain ⟨x100,h105,h⟩:=aA h;obtain ⟨f102,f103,f104⟩:=aZ h105;have f106:a2[0]? = some x100:=f104;obtain ⟨x101,h107,h⟩:=aA h;refine eC (o0 [0,1,2,3,4,5,6,7]) 28 fun K hK=>?_;simp only [go_sem,seval,c99,f102,f103,f106,e12];refine sF (DI a1.kL x100 0 _ h107 _ _ _) ?_;simp only [go_sem,seval];apply hK;refine aO ?_
    try simp only [aT]
    cases h;refine ⟨by simp,?_⟩;simp only [go_sem,seval,l0,lM hvrP0,e12]
   ·refine aU ?_
    refine aF (aF ?_);obtain ⟨y108,j108,h⟩:=aA h;refine fX 28 (fun X Y=>X 0=.ptr P0 0/\X 2=.list .none (a2.map (cI .u64))/\X 4=.ptr (0::q) 0/\X 8=.lit (.int .u64 0)/\X 47=.lit (.bool y108)/\Y.blk P0=some ((aN.C a0.p_)++[.lit (.int .i64 a0.eB),.lit (.int .i64 a0.fQ),.lit (.int .i64 a0.e_),.list .self (a0.bT.map bC.C)])/\Y.blk (0::q)=some ((aG.C a1))/\Y.ver P0 4=zP0+a0.bT.length/\Y.gl=m.gl/\m.back q Y=(m.setv P0 4 ((aN.C a0.p_)++[.lit (.int .i64 a0.eB),.lit (.int .i64 a0.fQ),.lit (.int .i64 a0.e_),.list .self (a0.bT.map bC.C)]) (zP0+a0.bT.length))) ?_ ?_
    ·rcases dD j108 with ⟨c109,j108⟩ | ⟨c109,j108⟩
     ·refine cH ?_;obtain rfl:=bO j108;refine ⟨by decide,?_⟩;simp only [go_sem,seval,l0,lM hvrP0,e12]
     ·refine cH ?_;obtain rfl:=bO j108;refine ⟨by decide,?_⟩;simp only [go_sem,seval,l0,lM hvrP0,e12]
    ·intro E110 m111 e112 _;refine bH h (fun c113 h=>?_) (fun c113 h=>?_)
     ·obtain ⟨x114,h119,h⟩:=aA h;obtain ⟨f116,f117,f118⟩:=aZ h119;have f120:a2[0]? = some x114:=f118;obtain ⟨x115,h121,h⟩:=aA h;refine aP fun K hK=>?_;simp only [go_sem,seval,f116,f117,f120,e112];refine SC.bA (kC a0 4 (u32.wrap x114) (u32.wrap 0) _ h121 _ _ _ P0 zP0) ?_;simp only [go_sem,seval];apply hK;refine aF ?_;obtain ⟨x122,h124,h⟩:=aA h;refine aP fun K hK=>?_;simp only [go_sem,seval,gZ u0,e112];refine SC.bA (xY n a1.kL _ h124 _ _ _) ?_;simp only [go_sem,seval];apply hK;refine aF (aL ?_);refine bM ?_;obtain ⟨y128,j128,h⟩:=aA h;refine kX (fun c X Y=>∃v126 v127,mB a2 c v126 v127=some y128/\X 0=.ptr P0 0/\X 9=.ptr (40::q) 0/\X 60=.list .none (a2.map (cI .u64))/\X 61=.lit (.int .i64 (a2.length:Int))/\X 62=.lit (.int .i64 v126)/\Y.blk P0=some ((aN.C x115.p_)++[.lit (.int .i64 x115.eB),.lit (.int .i64 x115.fQ),.lit (.int .i64 x115.e_),.list .self (x115.bT.map bC.C)])/\Y.blk (40::q)=some ([.lit (.int .i64 v127.kL),.lit (.int .u32 v127.N_),.list .self (v127.aM.map aY.C)])/\Y.ver P0 4=zP0+x115.bT.length/\Y.gl=m.gl/\m.back q Y=(m.setv P0 4 ((aN.C x115.p_)++[.lit (.int .i64 x115.eB),.lit (.int .i64 x115.fQ),.lit (.int .i64 x115.e_),.list .self (x115.bT.map bC.C)]) (zP0+x115.bT.length))) n ⟨0,(aY.mk x122 0 []),j128,?_⟩ ?_
      ·simp only [go_sem,seval,bF,dB,l0,eX u0,lM hvrP0,gZ u0,e112]
      rintro i125 c129 E130 m131 ⟨v126,v127,j128,e132⟩ _
      rcases c129 with _ | c129
      ·cases j128
      rw [mB] at j128;refine aL ?_;refine aF (bH j128 (fun c133 j128=>?_) (fun c133 j128=>?_))
      ·refine aU ?_
       refine aF (bM (aF ?_));obtain ⟨x134,h138,j128⟩:=aA j128;obtain ⟨f135,f136,f137⟩:=aZ h138;refine cH ?_;obtain ⟨x139,h140,j128⟩:=aA j128;obtain ⟨f141,j128⟩:=bP j128;have f142:v127.aM.length+1<=1073741824:=by first | omega | (simp only [nC,jC,lA] at f141 ⊢;omega)
       have f143:v127.aM.length<=1073741823:=by first | omega | (simp only [nC,jC,lA] at f141 ⊢;omega)
       refine eC [(2,0),(3,0),(4,0),(0,0),(1,1),(5,0),(6,0),(7,0),(8,0)] 13 fun K hK=>?_;simp only [go_sem,seval];refine sF (BR (u32.wrap x134) _ h140 _ _ _) ?_;simp only [go_sem,seval,f142,e132];apply hK;simp only [aK,aQ];refine cH ?_;refine ⟨c129,xQ _,(i64.wrap (v126+1)),({ v127 with aM:=(v127.aM++[x139]) }:aY),j128,?_⟩;simp only [go_sem,seval,bF,dB,cG,gZ u0,e132]
      ·refine dQ ?_
       try simp only [bZ,bR,↓reduceIte,aK]
       obtain rfl:=bO j128;refine aF ?_;obtain ⟨x144,h145,h⟩:=aA h;refine aP fun K hK=>?_;simp only [go_sem,seval,c133,e132];refine SC.bA (vB n v127 [] _ h145 _ _ _) ?_;simp only [go_sem,seval];apply hK;refine aF (aL ?_);refine bH h (fun c146 h=>?_) (fun c146 h=>?_)
       ·refine cH ?_;refine aL ?_;refine aO ?_;cases h;exact jS
       ·refine aU ?_
        refine aL ?_;refine aO ?_;cases h;exact jS
     ·refine aU ?_
      refine aF ?_;obtain ⟨x150,h152,h⟩:=aA h;refine aP fun K hK=>?_;simp only [go_sem,seval,e112];refine SC.bA (xY n a1.kL _ h152 _ _ _) ?_;simp only [go_sem,seval];apply hK;refine aF (aL ?_);refine bM ?_;obtain ⟨y156,j156,h⟩:=aA h;refine kX (fun c X Y=>∃v154 v155,jT a2 c v154 v155=some y156/\X 0=.ptr P0 0/\X 9=.ptr (32::q) 0/\X 60=.list .none (a2.map (cI .u64))/\X 61=.lit (.int .i64 (a2.length:Int))/\X 62=.lit (.int .i64 v154)/\Y.blk P0=some ((aN.C a0.p_)++[.lit (.int .i64 a0.eB),.lit (.int .i64 a0.fQ),.lit (.int .i64 a0.e_),.list .self (a0.bT.map bC.C)])/\Y.blk (32::q)=some ([.lit (.int .i64 v155.kL),.lit (.int .u32 v155.N_),.list .self (v155.aM.map aY.C)])/\Y.ver P0 4=zP0+a0.bT.length/\Y.gl=m.gl/\m.back q Y=(m.setv P0 4 ((aN.C a0.p_)++[.lit (.int .i64 a0.eB),.lit (.int .i64 a0.fQ),.lit (.int .i64 a0.e_),.list .self (a0.bT.map bC.C)]) (zP0+a0.bT.length))) n ⟨0,(aY.mk x150 0 []),j156,?_⟩ ?_
      ·simp only [go_sem,seval,bF,dB,l0,lM hvrP0,gZ u0,e112]
      rintro i153 c157 E158 m159 ⟨v154,v155,j156,e160⟩ _
      rcases c157 with _ | c157
      ·cases j156
      rw [jT] at j156;refine aL ?_;refine aF (bH j156 (fun c161 j156=>?_) (fun c161 j156=>?_))
      ·refine aU ?_
       refine aF (bM (aF ?_));obtain ⟨x162,h166,j156⟩:=aA j156;obtain ⟨f163,f164,f165⟩:=aZ h166;refine cH ?_;obtain ⟨x167,h168,j156⟩:=aA j156;obtain ⟨f169,j156⟩:=bP j156;have f170:v155.aM.length+1<=1073741824:=by first | omega | (simp only [nC,jC,lA] at f169 ⊢;omega)
       have f171:v155.aM.length<=1073741823:=by first | omega | (simp only [nC,jC,lA] at f169 ⊢;omega)
       refine eC [(2,0),(3,0),(4,0),(0,0),(1,1),(5,0),(6,0),(7,0),(8,0)] 13 fun K hK=>?_;simp only [go_sem,seval];refine sF (BR (u32.wrap x162) _ h168 _ _ _) ?_;simp only [go_sem,seval,f170,e160];apply hK;simp only [aK,aQ];refine cH ?_;refine ⟨c157,xQ _,(i64.wrap (v154+1)),({ v155 with aM:=(v155.aM++[x167]) }:aY),j156,?_⟩;simp only [go_sem,seval,bF,dB,cG,l0,lM hvrP0,gZ u0,e160]
      ·refine dQ ?_
       try simp only [bZ,bR,↓reduceIte,aK]
       obtain rfl:=bO j156;refine aF ?_;obtain ⟨x172,h173,h⟩:=aA h;refine aP fun K hK=>?_;simp only [go_sem,seval,c161,e160];refine SC.bA (vB n v155 [] _ h173 _ _ _) ?_;simp only [go_sem,seval];apply hK;refine aF (aL ?_);refine bH h (fun c174 h=>?_) (fun c174 h=>?_)
       ·refine cH ?_;refine aL ?_;refine aO ?_;cases h;refine ⟨by simp,?_⟩;simp only [go_sem,seval,dG u0,l0,lM hvrP0,e160]
       ·refine aU ?_
        refine aL ?_;refine aO ?_;cases h;refine ⟨by simp,?_⟩;simp only [go_sem,seval,l0,lM hvrP0,e160]
def lE (f:aE->aJ->(List (List Int))->aG->Option (Int × aE)):Prop:=∀a0 a1 a2 a3 r,f a0 a1 a2 a3=some r->∀(q:Pa) (m:M) (vs:List V) (P0:Pa) (P1:Pa) (zP0:Nat) (W A:Pa) (AS:List Pa) (LS:List Nat),vs.map V.weak1=[.ptr P0 0,.ptr P1 0,.agg ((aG.C a3))]/\m.blk P0=some ((aN.C a0.p_)++[.lit (.int .i64 a0.eB),.lit (.int .i64 a0.fQ),.lit (.int .i64 a0.e_),.list .self (a0.bT.map bC.C)])/\m.blk P1=some (Cx W A a1)/\m.ver P0 4=zP0+a0.bT.length/\nV m.hp W A AS LS a1.cC a1.cE a2/\(P0=P1)=False/\(P1=P0)=False/\m.gl 3=.eptr [(cA bY.C dR)] 0 0->SC prog 120 vs q m (fun v Y=>v=.lit (.int .u64 r.1)/\Y=(m.setv P0 4 ((aN.C r.2.p_)++[.lit (.int .i64 r.2.eB),.lit (.int .i64 r.2.fQ),.lit (.int .i64 r.2.e_),.list .self (r.2.bT.map bC.C)]) (zP0+r.2.bT.length)))
def oS (f:aE->aJ->(List (List Int))->aG->Int->Option (Int × aE)):Prop:=∀a0 a1 a2 a3 a4 r,f a0 a1 a2 a3 a4=some r->∀(q:Pa) (m:M) (vs:List V) (P0:Pa) (P1:Pa) (zP0:Nat) (W A:Pa) (AS:List Pa) (LS:List Nat),vs.map V.weak1=[.ptr P0 0,.ptr P1 0,.agg ((aG.C a3)),.lit (.int .i64 a4)]/\m.blk P0=some ((aN.C a0.p_)++[.lit (.int .i64 a0.eB),.lit (.int .i64 a0.fQ),.lit (.int .i64 a0.e_),.list .self (a0.bT.map bC.C)])/\m.blk P1=some (Cx W A a1)/\m.ver P0 4=zP0+a0.bT.length/\nV m.hp W A AS LS a1.cC a1.cE a2/\(P0=P1)=False/\(P1=P0)=False/\m.gl 3=.eptr [(cA bY.C dR)] 0 0->SC prog 164 vs q m (fun v Y=>v=.lit (.int .u32 r.1)/\Y=(m.setv P0 4 ((aN.C r.2.p_)++[.lit (.int .i64 r.2.eB),.lit (.int .i64 r.2.fQ),.lit (.int .i64 r.2.e_),.list .self (r.2.bT.map bC.C)]) (zP0+r.2.bT.length)))
theorem yS {mW} (zH:oS mW) {dI} (pN:lE dI) (n:Nat):lE (cY mW dI n):=by
 rintro a0 a1 a2 a3 r h q m vs P0 P1 zP0 W A AS LS ⟨hv,hmP0,hmP1,hvrP0,hkF,hn0_1,hn1_0,hg3⟩;refine SC.wv hv ?_;refine SC.apart hmP0 fun u0=>?_;refine SC.apart hmP1 fun u1=>?_;have l0:=nD hmP0
 try simp only [go_sem] at hmP0 l0
 try simp only [go_sem] at hmP1
 refine eD func120 call120 ntmps120 results120 ?_;unfold cY at h;refine aL ?_;refine aF (aL ?_);refine bM (aL ?_);refine bH h (fun c2 h=>?_) (fun c2 h=>?_)
 ·refine aL ?_;refine aO ?_
  try simp only [aT,bI]
  cases h;refine ⟨by simp,?_⟩;simp only [go_sem,seval,bF,bK,l0,lM hvrP0]
 ·refine aL ?_;refine bH h (fun c3 h=>?_) (fun c3 h=>?_)
  ·refine aF ?_;obtain ⟨x4,h8,h⟩:=aA h;obtain ⟨f5,f6,f7⟩:=aZ h8;obtain ⟨w9,d10⟩:=sC (f:=HJ) f7;refine eC (o0 [0,1,2,3,4,5,6,7,8]) 17 fun K hK=>?_;simp only [go_sem,seval,gZ u1,hkF.w,c3,f5,f6,d10,hmP1];apply hK;refine aO ?_
   try simp only [aT,bI]
   cases h;refine ⟨by simp,?_⟩;simp only [go_sem,seval,bF,bK,l0,lM hvrP0]
  ·refine aL ?_;refine bH h (fun c11 h=>?_) (fun c11 h=>?_)
   ·refine aF ?_;obtain ⟨x12,h17,h⟩:=aA h;obtain ⟨f14,f15,f16⟩:=aZ h17;have f18:a3.aM[0]? = some x12:=f16;obtain ⟨x13,h19,h⟩:=aA h;refine eC (o0 [0,1,2,3,4,5,6,7,8,9]) 20 fun K hK=>?_;simp only [go_sem,seval,c11,f14,f15,f18];refine vN (zH a0 a1 a2 x12 a3.lO _ h19 _ _ _ P0 P1 zP0 W A AS LS (by simp only [go_sem,seval,gZ u0,gZ u1,hkF,hn0_1,hn1_0,hmP0,hvrP0,hmP1,hg3])) rfl ?_;simp only [go_sem,seval];apply hK;refine aF (aF ?_);obtain ⟨x20,h21,h⟩:=aA h;refine aP fun K hK=>?_;simp only [go_sem,seval];refine SC.bA (cW x13.2 _ h21 _ _ _ P0 zP0) ?_;simp only [go_sem,seval];apply hK;refine bH h (fun c22 h=>?_) (fun c22 h=>?_)
    ·refine aL ?_;refine aO ?_
     try simp only [aT,bI]
     cases h;refine ⟨by simp,?_⟩;simp only [go_sem,seval,bF,bK,eX u0]
    ·refine aU ?_
     refine aF ?_;obtain ⟨x23,h30,h⟩:=aA h;obtain ⟨f27,f28,f29⟩:=aZ h30;obtain ⟨w31,d32⟩:=sC (f:=(xL AS LS)) f29;obtain ⟨x24,h36,h⟩:=aA h;obtain ⟨f33,f34,f35⟩:=aZ h36;have hx_a_25:=f35;obtain ⟨a_25,d37,d38,ex_a_25,nw_a_25,na_a_25⟩:=nV.get hkF f33 f35;obtain ⟨x26,h42,h⟩:=aA h;obtain ⟨f39,f40,f41⟩:=aZ h42;obtain ⟨w43,d44⟩:=sC (f:=BK) f41;refine eC (o0 [0,1,2,3,4,5,6,7,8,9,10,11,12]) 35 fun K hK=>?_;simp only [go_sem,seval,gZ u0,gZ u1,hkF.a,hn1_0,c22,f27,f28,d32,d37,d38,f39,f40,d44,hmP1];apply hK;refine aO ?_
     try simp only [aT,bI]
     cases h;refine ⟨by simp,?_⟩;simp only [go_sem,seval,bF,bK,eX u0]
   ·refine aU ?_
    try simp only [aK,aQ]
    refine aL ?_;refine aF (aL ?_);refine bM ?_;obtain ⟨y49,j49,h⟩:=aA h;refine zL 8 ([].map (cI .u64)) rfl (by simp only [go_sem,seval]) ?_;refine kX (fun c X Y=>∃v46 v47 v48 o_v46 j_v46,dY dI a3 a1 a2 c v46 v47 v48=some y49/\X 0=.ptr P0 0/\X 1=.ptr P1 0/\X 5=.ptr (0::q) 0/\X 8=.list (.st (.anon o_v46 j_v46)) (v46.map (cI .u64))/\Y.tok o_v46 j_v46=true/\q <:+ o_v46/\X 57=.list .none (a3.aM.map aG.C)/\X 58=.lit (.int .i64 (a3.aM.length:Int))/\X 59=.lit (.int .i64 v47)/\Y.blk P0=some ((aN.C v48.p_)++[.lit (.int .i64 v48.eB),.lit (.int .i64 v48.fQ),.lit (.int .i64 v48.e_),.list .self (v48.bT.map bC.C)])/\Y.blk P1=some (Cx W A a1)/\Y.blk (0::q)=some ((aG.C a3))/\Y.ver P0 4=zP0+v48.bT.length/\Y.gl=m.gl/\Y.hp=m.hp/\m.back q Y=(m.setv P0 4 ((aN.C v48.p_)++[.lit (.int .i64 v48.eB),.lit (.int .i64 v48.fQ),.lit (.int .i64 v48.e_),.list .self (v48.bT.map bC.C)]) (zP0+v48.bT.length))) n ⟨[],0,a0,(15::q),0,j49,?_⟩ ?_
    ·simp only [go_sem,seval,bF,cG,bK,l0,lM hvrP0,hvrP0,gZ u0,gZ u1,hmP0,hmP1]
    rintro i45 c50 E51 m52 ⟨v46,v47,v48,o_v46,j_v46,j49,e53⟩ _
    rcases c50 with _ | c50
    ·cases j49
    rw [dY] at j49;refine aL ?_;refine aF (bH j49 (fun c54 j49=>?_) (fun c54 j49=>?_))
    ·refine aU ?_
     refine aF (bM (aF ?_));obtain ⟨x55,h60,j49⟩:=aA j49;obtain ⟨f57,f58,f59⟩:=aZ h60;refine cH ?_;refine aF ?_;obtain ⟨x61,h62,j49⟩:=aA j49;refine aP fun K hK=>?_;simp only [go_sem,seval,e53];refine SC.by_ (pN v48 a1 a2 x55 _ h62 _ _ _ P0 P1 zP0 W A AS LS (by simp only [go_sem,seval,gZ u0,gZ u1,hkF,hn0_1,hn1_0,e53,hg3])) ?_;simp only [go_sem,seval];apply hK;refine aF (aF ?_);obtain ⟨x63,h64,j49⟩:=aA j49;refine aP fun K hK=>?_;simp only [go_sem,seval,e53];refine SC.bA (cW x61.2 _ h64 _ _ _ P0 zP0) ?_;simp only [go_sem,seval];apply hK;refine bH j49 (fun c65 j49=>?_) (fun c65 j49=>?_)
     ·refine aL ?_;refine aO ?_
      try simp only [aT,bI]
      obtain rfl:=bO j49;simp only [Es] at h;cases h;refine ⟨by simp,?_⟩;simp only [go_sem,seval,bF,eX u0,e53]
     ·refine aU ?_
      try simp only [aK]
      obtain ⟨f66,j49⟩:=bP j49;have f67:v46.length+1<=1073741824:=by first | omega | (simp only [nC,jC,lA] at f66 ⊢;omega)
      have f68:v46.length<=1073741823:=by first | omega | (simp only [nC,jC,lA] at f66 ⊢;omega)
      refine eR fun K hK=>?_;simp only [go_sem,seval,c65,f67,e53];apply hK;simp only [aK,aQ];refine cH ?_;refine ⟨c50,xQ _,(v46++[x61.1]),(i64.wrap (v47+1)),x61.2,(15::i45::16::q),0,j49,?_⟩;simp only [go_sem,seval,bF,cG,eX u0,gZ u0,gZ u1,hn1_0,e53]
    ·refine dQ ?_
     try simp only [bZ,bR,↓reduceIte,aK]
     obtain rfl:=bO j49;simp only [GH] at h;refine aF (aF ?_);obtain ⟨x69,h70,h⟩:=aA h;refine aP fun K hK=>?_;simp only [go_sem,seval,c54,e53];refine SC.bA (Gt a3.kL v46 _ h70 _ _ _) ?_;simp only [go_sem,seval];apply hK;refine aL ?_;refine bH h (fun c71 h=>?_) (fun c71 h=>?_)
     ·refine aL ?_;refine aO ?_
      try simp only [aT]
      cases h;exact jS
     ·refine aU ?_
      refine aF ?_;obtain ⟨x72,h73,h⟩:=aA h;refine aP fun K hK=>?_;simp only [go_sem,seval,c71,e53];refine SC.bA (yU n v48 a3 v46 _ h73 _ _ _ P0 zP0) ?_;simp only [go_sem,seval];apply hK;refine aO ?_;cases h;refine ⟨by simp,?_⟩;simp only [go_sem,seval,eX u0,e53]
theorem yV {dI} (pN:lE dI) (n:Nat):oS (iC dI n):=by
 rintro a0 a1 a2 a3 a4 r h q m vs P0 P1 zP0 W A AS LS ⟨hv,hmP0,hmP1,hvrP0,hkF,hn0_1,hn1_0,hg3⟩;refine SC.wv hv ?_;refine SC.apart hmP0 fun u0=>?_;refine SC.apart hmP1 fun u1=>?_;have l0:=nD hmP0
 try simp only [go_sem] at hmP0 l0
 try simp only [go_sem] at hmP1
 refine eD func164 call164 ntmps164 results164 ?_;unfold iC at h;refine aL ?_;refine aF ?_;obtain ⟨x2,h3,h⟩:=aA h;refine aP fun K hK=>?_;simp only [go_sem,seval];refine SC.by_ (pN a0 a1 a2 a3 _ h3 _ _ _ P0 P1 zP0 W A AS LS (by simp only [go_sem,seval,eO u0,eO u1,hkF,hn0_1,hn1_0,hmP0,hvrP0,hmP1,hg3])) ?_;simp only [go_sem,seval];apply hK;refine aF (aF ?_);obtain ⟨x4,h5,h⟩:=aA h;refine aP fun K hK=>?_;simp only [go_sem,seval];refine SC.bA (cW x2.2 _ h5 _ _ _ P0 zP0) ?_;simp only [go_sem,seval];apply hK;refine bH h (fun c6 h=>?_) (fun c6 h=>?_)
 ·refine aL ?_;refine aO ?_
  try simp only [aT]
  cases h;refine ⟨by simp,?_⟩;simp only [go_sem,seval,bF,bK,eX u0]
 ·refine aU ?_
  refine aF ?_;obtain ⟨x7,h13,h⟩:=aA h;obtain ⟨f10,f11,f12⟩:=aZ h13;obtain ⟨w14,d15⟩:=sC (f:=(xL AS LS)) f12;obtain ⟨x8,h19,h⟩:=aA h;obtain ⟨f16,f17,f18⟩:=aZ h19;have hx_a_9:=f18;obtain ⟨a_9,d20,d21,ex_a_9,nw_a_9,na_a_9⟩:=nV.get hkF f16 f18;refine aP fun K hK=>?_;simp only [go_sem,seval,eO u1,hkF.a,hn1_0,c6,f10,f11,d15,d20,hmP1];apply hK;refine aF ?_;obtain ⟨x22,h23,h⟩:=aA h;refine aP fun K hK=>?_;simp only [go_sem,seval];refine SC.bA (kC x2.2 3 (u32.wrap x2.1) (u32.wrap (x8.length:Int)) _ h23 _ _ _ P0 zP0) ?_;simp only [go_sem,seval];apply hK;refine aF (aL ?_);refine bH h (fun c24 h=>?_) (fun c24 h=>?_)
  ·refine aL ?_;refine aL ?_;refine aO ?_
   try simp only [aT]
   cases h;refine ⟨by simp,?_⟩;simp only [go_sem,seval,bF,bK,eX u0]
  ·refine aU ?_
   refine aL ?_;refine aO ?_;cases h;refine ⟨by simp,?_⟩;simp only [go_sem,seval,bF,bK,eX u0]
theorem oV:∀n,lE (bU n)/\oS (gK n)
 | 0=>⟨fun _ _ _ _ _ h=>fM h,fun _ _ _ _ _ _ h=>fM h⟩
 | n+1=>
   have ih:=oV n
   ⟨yS ih.2 ih.1 n,yV ih.1 n⟩
theorem fH (n:Nat):lE (bU n):=(oV n).1
theorem AJ (n:Nat):oS (gK n):=(oV n).2
def Dz (f:aJ->(List (List Int))->Int->Int->Option (aJ × (List (List Int)))):Prop:=∀a0 a1 a2 a3 r,f a0 a1 a2 a3=some r->∀(q:Pa) (m:M) (vs:List V) (P0:Pa) (W A:Pa) (AS:List Pa) (LS:List Nat),vs.map V.weak1=[.ptr P0 0,.lit (.int .i64 a2),.lit (.int .u64 a3)]/\m.blk P0=some (Cx W A a0)/\nV m.hp W A AS LS a0.cC a0.cE a1->SC prog 121 vs q m (fun v Y=>v=.tup []/\Y=((m.set P0 (Cx W A r.1)).seth (tF m.hp W r.1.cC AS r.2))/\eJ a0 a1 r.1 r.2)
theorem kO:Dz (cZ):=by
 rintro a0 a1 a2 a3 r h q m vs P0 W A AS LS ⟨hv,hmP0,hkF⟩;refine SC.wv hv ?_;refine SC.ap hmP0 fun u0 l0=>?_
 try simp only [go_sem] at hmP0 l0
 refine eD func121 call121 ntmps121 results121 ?_;unfold cZ at h;refine aL ?_;refine bH h (fun c1 h=>?_) (fun c1 h=>?_)
 ·obtain ⟨x2,h9,h⟩:=aA h;obtain ⟨f6,f7,f8⟩:=aZ h9;obtain ⟨w10,d11⟩:=sC (f:=HJ) f8;have f3:a2.toNat+1<=a0.cC.length:=by omega
  have kp4:eJ a0 a1 ({ a0 with cC:=(a0.cC.set a2.toNat a3) }:aJ) a1:=eJ.setW eJ.refl;have hk5:nV (tF m.hp W ({ a0 with cC:=(a0.cC.set a2.toNat a3) }:aJ).cC AS a1) W A AS LS ({ a0 with cC:=(a0.cC.set a2.toNat a3) }:aJ).cC ({ a0 with cC:=(a0.cC.set a2.toNat a3) }:aJ).cE a1:=nV.upk hkF kp4;refine eR fun K hK=>?_;simp only [go_sem,seval,qH,hkF.w,f6,f7,f3,(nV.setW hkF),hmP0];apply hK;simp only [];cases h;refine ⟨by simp,?_⟩;simp only [go_sem,bK,gQ,l0,GI,kp4]
 ·refine aU ?_;cases h;refine ⟨by simp,?_⟩;simp only [go_sem,bK,l0,nV.same hkF,Ov,c1]
def Bo (f:aE->aJ->(List (List Int))->aH->Option (aE × aJ × (List (List Int)))):Prop:=∀a0 a1 a2 a3 r,f a0 a1 a2 a3=some r->∀(q:Pa) (m:M) (vs:List V) (P0:Pa) (P1:Pa) (zP0:Nat) (W A:Pa) (AS:List Pa) (LS:List Nat),vs.map V.weak1=[.ptr P0 0,.ptr P1 0,.agg ((aH.C a3))]/\m.blk P0=some ((aN.C a0.p_)++[.lit (.int .i64 a0.eB),.lit (.int .i64 a0.fQ),.lit (.int .i64 a0.e_),.list .self (a0.bT.map bC.C)])/\m.blk P1=some (Cx W A a1)/\m.ver P0 4=zP0+a0.bT.length/\nV m.hp W A AS LS a1.cC a1.cE a2/\(P0=P1)=False/\(P1=P0)=False/\m.gl 3=.eptr [(cA bY.C dR)] 0 0->SC prog 122 vs q m (fun v Y=>v=.tup []/\Y=(m.fr P0 P1 ((aN.C r.1.p_)++[.lit (.int .i64 r.1.eB),.lit (.int .i64 r.1.fQ),.lit (.int .i64 r.1.e_),.list .self (r.1.bT.map bC.C)]) (zP0+r.1.bT.length) (Cx W A r.2.1) (tF m.hp W r.2.1.cC AS r.2.2))/\eJ a1 a2 r.2.1 r.2.2)
theorem AI (n:Nat):Bo (hM n):=by
 rintro a0 a1 a2 a3 r h q m vs P0 P1 zP0 W A AS LS ⟨hv,hmP0,hmP1,hvrP0,hkF,hn0_1,hn1_0,hg3⟩;refine SC.wv hv ?_;refine SC.apart hmP0 fun u0=>?_;refine SC.apart hmP1 fun u1=>?_;have l0:=nD hmP0;have l1:=nD hmP1
 try simp only [go_sem] at hmP0 l0
 try simp only [go_sem] at hmP1 l1
 have hfs:=Fj hmP0 hvrP0 hmP1;refine eD func122 call122 ntmps122 results122 ?_;unfold hM at h;refine aL ?_;refine aF ?_;obtain ⟨x2,h7,h⟩:=aA h;obtain ⟨f4,f5,f6⟩:=aZ h7;have f8:a3.aM[0]? = some x2:=f6;obtain ⟨x3,h9,h⟩:=aA h;refine eC (o0 [0,1,2,3,4,5,6,7,8,9]) 11 fun K hK=>?_;simp only [go_sem,seval,f4,f5,f8];refine vN (AJ n a0 a1 a2 x2 a3.lO _ h9 _ _ _ P0 P1 zP0 W A AS LS (by simp only [go_sem,seval,eO u0,eO u1,hkF,hn0_1,hn1_0,hmP0,hvrP0,hmP1,hg3])) rfl ?_;simp only [go_sem,seval];apply hK;refine aF (aF ?_);obtain ⟨x10,h11,h⟩:=aA h;refine aP fun K hK=>?_;simp only [go_sem,seval];refine SC.bA (cW x3.2 _ h11 _ _ _ P0 zP0) ?_;simp only [go_sem,seval];apply hK;refine bH h (fun c12 h=>?_) (fun c12 h=>?_)
 ·refine aO ?_
  try simp only [aT]
  cases h;refine ⟨by simp,?_⟩;simp only [go_sem,bF,bK,eX u0,oO hmP1,nV.same hkF,c12]
 ·refine aU ?_
  refine aF ?_;obtain ⟨x13,h18,h⟩:=aA h;obtain ⟨f15,f16,f17⟩:=aZ h18;have f19:a3.aM[1]? = some x13:=f17;obtain ⟨x14,h20,h⟩:=aA h;refine aP fun K hK=>?_;simp only [go_sem,seval,eO u0,c12,f15,f16,f19];refine SC.by_ (fH n x3.2 a1 a2 x13 _ h20 _ _ _ P0 P1 zP0 W A AS LS (by simp only [go_sem,seval,eO u1,hkF,hn0_1,hn1_0,hmP1,hg3])) ?_;simp only [go_sem,seval];apply hK;refine aF ?_;obtain ⟨x21,h22,h⟩:=aA h;refine aP fun K hK=>?_;simp only [go_sem,seval];refine SC.bA (cW x14.2 _ h22 _ _ _ P0 zP0) ?_;simp only [go_sem,seval];apply hK;refine bH h (fun c23 h=>?_) (fun c23 h=>?_)
  ·obtain ⟨x24,h34,h⟩:=aA h;obtain ⟨f31,f32,f33⟩:=aZ h34;obtain ⟨w35,d36⟩:=sC (f:=(xL AS LS)) f33;obtain ⟨x25,h40,h⟩:=aA h;obtain ⟨f37,f38,f39⟩:=aZ h40;have hx_a_26:=f39;obtain ⟨a_26,d41,d42,ex_a_26,nw_a_26,na_a_26⟩:=nV.get hkF f37 f39;obtain ⟨x27,h46,h⟩:=aA h;obtain ⟨f43,f44,f45⟩:=aZ h46;obtain ⟨w47,d48⟩:=sC (f:=BK) f45;have f28:x3.1.toNat+1<=x25.length:=by omega
   have kp29:eJ a1 a2 a1 (a2.set x24.toNat (x25.set x3.1.toNat (u32.wrap x14.1))):=eJ.setA eJ.refl hx_a_26 GI;have hk30:nV (tF m.hp W a1.cC AS (a2.set x24.toNat (x25.set x3.1.toNat (u32.wrap x14.1)))) W A AS LS a1.cC a1.cE (a2.set x24.toNat (x25.set x3.1.toNat (u32.wrap x14.1))):=nV.upk hkF kp29;refine eC (o0 [0,1,2,3,4,5,6,7,8,9,10,11,12]) 37 fun K hK=>?_;simp only [go_sem,seval,qH,eO u0,eO u1,hkF.a,hn1_0,c23,f31,f32,d36,d41,d42,f43,f44,f28,(nV.setA hkF ex_a_26),hmP1];apply hK;simp only [];cases h;refine ⟨by simp,?_⟩;simp only [go_sem,bF,bK,gQ,eX u0,oO hmP1,kp29]
  ·refine aU ?_;cases h;refine ⟨by simp,?_⟩;simp only [go_sem,bF,bK,eX u0,oO hmP1,nV.same hkF,c23]
end Go.Proofs.YtncembphlfbgoaaGreatDoor.Abs
