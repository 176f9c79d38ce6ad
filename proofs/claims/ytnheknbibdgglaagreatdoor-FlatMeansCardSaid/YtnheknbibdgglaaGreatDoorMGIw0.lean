import Derived.Test.YtnheknbibdgglaaGreatDoorMFacts
import Derived.Test.YtnheknbibdgglaaGreatDoorMHp
import Derived.Test.YtnheknbibdgglaaGreatDoorMAw
namespace Go.Proofs.YtnheknbibdgglaaGreatDoor.Abs
open Go.RowKit Tryz
open IntKind (i64 u32 u64 u8)
set_option linter.all false
set_option maxRecDepth 10000
open Tryz
def eW (a:aI) (h:List (List Int)) (b:aI) (k:List (List Int)):Prop:=b.f_=a.f_/\b.aX=a.aX/\b.bP.length=a.bP.length/\k.map List.length=h.map List.length
@[go_sem] theorem eW.refl {a:aI} {h:List (List Int)}:eW a h a h:=⟨rfl,rfl,rfl,rfl⟩
theorem eW.trans {a b c:aI} {h k l:List (List Int)} (x:eW a h b k) (y:eW b k c l):eW a h c l:=⟨y.1.trans x.1,y.2.1.trans x.2.1,y.2.2.1.trans x.2.2.1,y.2.2.2.trans x.2.2.2⟩
theorem eW.setW {a b:aI} {h k:List (List Int)} (x:eW a h b k) {n:Nat} {v:Int}:eW a h { b with bP:=b.bP.set n v } k:=⟨x.1,x.2.1,by rw [yS];exact x.2.2.1,x.2.2.2⟩
theorem eW.setA {a b:aI} {h k:List (List Int)} (x:eW a h b k) {n:Nat} {l l':List Int} (hl:k[n]? = some l) (he:l'.length=l.length):eW a h b (k.set n l'):=⟨x.1,x.2.1,x.2.2.1,(Ny hl he).trans x.2.2.2⟩
theorem eW.res {a b:aI} {h k:List (List Int)} (x:eW a h b k) {v:Int}:eW a h { b with eX:=v } k:=x
theorem oV.upk {h:Hp} {W A:Pa} {AS:List Pa} {LS:List Nat} {a b:aI} {hs hs':List (List Int)} (k:oV h W A AS LS a.bP a.aX hs) (x:eW a hs b hs'):oV (uP h W b.bP AS hs') W A AS LS b.bP b.aX hs':=by rw [x.2.1];exact k.up x.2.2.2
def KB (f:aP->T_interp_Args->Option Bool):Prop:=∀a0 a1 r,f a0 a1=some r->Ey prog 15 [.agg ((aP.C a0)),.agg ((T_interp_Args.C a1))] (.lb r)
theorem JO (n:Nat):KB (rR n):=λa0 a1 r h q m vs hv=>SC.wva hv (fF func15 call15 ntmps15 results15 rfl (wk (.l [.v 5 Int λy=>.li y,.v 6 Int λy=>.li y,.v 15 Int λy=>.li y] [3,13,14] [3] [] none (.c (.j 11 1 29 [.v 5 Int λy=>.li y,.v 6 Int λy=>.li y] [3,13,14,15] [3] [] none (.c (.j 2 6 24 [.v 37 Bool λy=>.lb y] [3,5,6,13,14,15] [3] [] none .z .z) (.j 2 9 26 [.v 57 Bool λy=>.lb y] [3,5,6,13,14,15] [3] [] none .z .z)) .z) .z) (.j 2 13 26 [.v 4 Bool λy=>.lb y] [] [] [] none .z .z)) q m (rR.eq_1 _ _ _) h))
def Dj (f:aE->Option Bool):Prop:=∀a0 r,f a0=some r->∀(q:Pa) (m:M) (vs:List V) (P0:Pa) (zP0:Nat),vs.map V.weak1=[.ptr P0 0]/\m.blk P0=some ((aK.C a0.p_)++[.li a0.dO,.li a0.cN,.li a0.e_,.list .self (a0.bT.map bE.C)])/\m.ver P0 4=zP0+a0.bT.length->SC prog 63 vs q m (λv Y=>v=.lb r/\Y=m)
theorem dC:Dj (bO):=by
 rintro a0 r h q m vs P0 zP0 ⟨hv,hmP0,o0⟩;refine SC.wv hv ?_;refine SC.apart hmP0 λu0=>?_
 try simp only [go_sem] at hmP0
 refine oE func63 call63 ntmps63 results63 ?_;unfold bO at h;refine bC ?_;refine aN ?_;obtain ⟨y1,j1,h⟩:=aD h;refine rE 14 (λX Y=>X 2=.lb y1/\Y.blk P0=some ((aK.C a0.p_)++[.li a0.dO,.li a0.cN,.li a0.e_,.list .self (a0.bT.map bE.C)])/\Y.ver P0 4=zP0+a0.bT.length/\Y.gl=m.gl/\m.back q Y=m) ?_ ?_
 ·rcases mL j1 with ⟨c2,j1⟩ | ⟨c2,j1⟩
  ·refine dY ?_;obtain rfl:=aZ j1;exact jD
  ·refine dY ?_;obtain rfl:=aZ j1;exact jD
 ·intro E3 m4 e5 _;refine cB ?_;cases h;exact jS
def Ec (f:aE->Option aE):Prop:=∀a0 r,f a0=some r->∀(q:Pa) (m:M) (vs:List V) (P0:Pa) (zP0:Nat),vs.map V.weak1=[.ptr P0 0]/\m.blk P0=some ((aK.C a0.p_)++[.li a0.dO,.li a0.cN,.li a0.e_,.list .self (a0.bT.map bE.C)])/\m.ver P0 4=zP0+a0.bT.length->SC prog 64 vs q m (λv Y=>v=.tup []/\Y=(m.setv P0 4 ((aK.C r.p_)++[.li r.dO,.li r.cN,.li r.e_,.list .self (r.bT.map bE.C)]) (zP0+r.bT.length)))
theorem wB:Ec (jL):=by
 rintro a0 r h q m vs P0 zP0 ⟨hv,hmP0,o0⟩;refine SC.wv hv ?_;refine SC.ap hmP0 λu0 l0=>?_
 try simp only [go_sem] at hmP0 l0
 refine oE func64 call64 ntmps64 results64 ?_;unfold jL at h;refine aN (bC ?_);refine cY h (λc1 h=>?_) (λc1 h=>?_)
 ·refine bC ?_;refine cB ?_
  try simp only [cE]
  cases h;refine ⟨zc,?_⟩;simp only [go_sem,bG,dW u0,jY o0]
 ·refine bL ?_
  refine kM λK hK=>?_;simp only [go_sem,seval,c1,hmP0];apply hK;simp only [];cases h;refine ⟨zc,?_⟩;simp only [go_sem,bG,dW u0,jY o0]
def EI (f:aE->Int->Int->Int->Option aE):Prop:=∀a0 a1 a2 a3 r,f a0 a1 a2 a3=some r->∀(q:Pa) (m:M) (vs:List V) (P0:Pa) (zP0:Nat),vs.map V.weak1=[.ptr P0 0,.li a1,.lw a2,.lw a3]/\m.blk P0=some ((aK.C a0.p_)++[.li a0.dO,.li a0.cN,.li a0.e_,.list .self (a0.bT.map bE.C)])/\m.ver P0 4=zP0+a0.bT.length->SC prog 142 vs q m (λv Y=>v=.tup []/\Y=(m.setv P0 4 ((aK.C r.p_)++[.li r.dO,.li r.cN,.li r.e_,.list .self (r.bT.map bE.C)]) (zP0+r.bT.length)))
theorem lI:EI (cX):=by
 rintro a0 a1 a2 a3 r h q m vs P0 zP0 ⟨hv,hmP0,o0⟩;refine SC.wv hv ?_;refine SC.ap hmP0 λu0 l0=>?_
 try simp only [go_sem] at hmP0 l0
 refine oE func142 call142 ntmps142 results142 ?_;unfold cX at h;obtain ⟨f1,h⟩:=bN h;have f2:a0.bT.length+1<=1073741824:=by first | omega | (simp only [nB,jJ,mO] at f1 ⊢;omega)
 have f3:a0.bT.length<=1073741823:=by first | omega | (simp only [nB,jJ,mO] at f1 ⊢;omega)
 refine kM λK hK=>?_;simp only [go_sem,seval,f2,hmP0,o0];apply hK;simp only [];cases h;refine ⟨zc,?_⟩;simp only [go_sem,bZ,bG,dW u0,Ka u0,Ni o0,nB,jJ,mO,ES,←xee]
def JN (f:cQ->(List Int)->Option (Int × Bool)):Prop:=∀a0 a1 r,f a0 a1=some r->Ey prog 140 [.ls a0,.list .none (a1.map (cI .u64))] (.tup [.lit (.int .u64 r.1),.lb r.2])
theorem ID:JN (sX):=λa0 a1 r h q m vs hv=>SC.wva hv (fF func140 call140 ntmps140 results140 rfl (wk .z q m (sX.eq_1 _ _) h))
def Ik (f:bH->(List Int)->Option Int):Prop:=∀a0 a1 r,f a0 a1=some r->Ey prog 37 [.agg ((bH.C a0)),.list .none (a1.map (cI .u32))] (.lw r)
theorem LG:Ik (FL):=λa0 a1 r h q m vs hv=>SC.wva hv (fF func37 call37 ntmps37 results37 rfl (wk .z q m (FL.eq_1 _ _) h))
instance:rX 37 (Ik FL):=⟨LG⟩
def GU (f:Bool->Option Int):Prop:=∀a0 r,f a0=some r->Ey prog 38 [.lb a0] (.lw r)
theorem Kl:GU (vP):=λa0 r h q m vs hv=>SC.wva hv (fF func38 call38 ntmps38 results38 rfl (wk .z q m (vP.eq_1 _) h))
instance:rX 38 (GU vP):=⟨Kl⟩
def Jh (f:Int->Int->Option Int):Prop:=∀a0 a1 r,f a0 a1=some r->Ey prog 39 [.li a0,.lw a1] (.lw r)
theorem MW:Jh (EU):=λa0 a1 r h q m vs hv=>SC.wva hv (fF func39 call39 ntmps39 results39 rfl (wk .z q m (EU.eq_1 _ _) h))
instance:rX 39 (Jh EU):=⟨MW⟩
def vD (f:Int->Int->Option Int):Prop:=∀a0 a1 r,f a0 a1=some r->Ey prog 107 [.lw a0,.li a1] (.lw r)
theorem BO:vD (lL):=λa0 a1 r h q m vs hv=>SC.wva hv (fF func107 call107 ntmps107 results107 rfl (wk .z q m (lL.eq_1 _ _) h))
instance:rX 107 (vD lL):=⟨BO⟩
def GV (f:Int->Int->Int->Option Int):Prop:=∀a0 a1 a2 r,f a0 a1 a2=some r->Ey prog 69 [.li a0,.lw a1,.lw a2] (.lw r)
theorem Km:GV (yD):=λa0 a1 a2 r h q m vs hv=>SC.wva hv (fF func69 call69 ntmps69 results69 rfl (wk .z q m (yD.eq_1 _ _ _) h))
instance:rX 69 (GV yD):=⟨Km⟩
def Jg (f:Int->Int->Int->Option (Int × Bool)):Prop:=∀a0 a1 a2 r,f a0 a1 a2=some r->Ey prog 40 [.li a0,.lw a1,.lw a2] (.tup [.lw r.1,.lb r.2])
theorem MV:Jg (Dc):=λa0 a1 a2 r h q m vs hv=>SC.wva hv (fF func40 call40 ntmps40 results40 rfl (wk .z q m (Dc.eq_1 _ _ _) h))
instance:rX 40 (Jg Dc):=⟨MV⟩
def BW (f:bH->(List Int)->Option (Int × Bool)):Prop:=∀a0 a1 r,f a0 a1=some r->Ey prog 17 [.agg ((bH.C a0)),.list .none (a1.map (cI .u32))] (.tup [.lw r.1,.lb r.2])
theorem Ji {tO} (JR:BW tO) (n:Nat):BW (vY tO n):=haveI:rX 17 (BW tO):=⟨JR⟩;λa0 a1 r h q m vs hv=>SC.wva hv (fF func17 call17 ntmps17 results17 rfl (wk (.c .z (.j 2 4 26 [.v 32 Bool λy=>.lb y] [1,2,6,7] [2] [] none .z .z)) q m (vY.eq_1 _ _ _ _) h))
theorem wT:∀n,BW (nZ n)
 | 0=>λ_ _ _ h=>eO h
 | n+1=>Ji (wT n) n
def QZ (f:Int->Option bH):Prop:=∀a0 r,f a0=some r->Ey prog 146 [.lw a0] (.agg ((bH.C r)))
theorem DL:QZ (LH):=λa0 r h q m vs hv=>SC.wva hv (fF func146 call146 ntmps146 results146 rfl (wk .z q m (LH.eq_1 _) h))
def NI (f:cQ->Option Int):Prop:=∀a0 r,f a0=some r->∀(q:Pa) (m:M) (vs:List V),vs.map V.weak1=[.ls a0]/\m.gl 3=.eptr [(cA bY.C eY)] 0 0->SC prog 147 vs q m (λv Y=>v=.li r/\Y=m)
theorem Aw (n:Nat):NI (sL n):=by
 rintro a0 r h q m vs ⟨hv,hg3⟩;refine SC.wv hv (oE func147 call147 ntmps147 results147 ?_);unfold sL at h;refine bC ?_;refine aN (bC ?_);refine cK ?_;obtain ⟨y3,j3,h⟩:=aD h;refine rG (λc X Y=>∃v2,qO a0 c v2=some y3/\X 0=.ls a0/\X 5=.agg ((cA bY.C eY))/\X 6=.li v2/\Y.gl=m.gl/\m.back q Y=m) n ⟨0,j3,?_⟩ ?_
 ·simp only [go_sem,seval,bG]
 rintro i1 c4 E5 m6 ⟨v2,j3,e7⟩ _
 rcases c4 with _ | c4
 ·cases j3
 rw [qO] at j3;refine bC ?_;refine aN (cY j3 (λc8 j3=>?_) (λc8 j3=>?_))
 ·refine bL ?_
  refine aN (cK (aN ?_));obtain ⟨x9,h14,j3⟩:=aD j3;obtain ⟨f11,f12,f13⟩:=aY h14;have f15:v2<15:=f12;obtain ⟨w16,d17⟩:=Mw (f:=bY.C) (s:=2) (λ_ _=>rfl) f13;simp only [go_sem] at d17;refine bX λK hK=>?_;simp only [go_sem,seval,f11,f15,d17,e7];apply hK;refine bC ?_;refine cY j3 (λc18 j3=>?_) (λc18 j3=>?_)
  ·refine bC ?_;refine cB ?_
   try simp only [cE,gP]
   obtain rfl:=aZ j3;simp only [PQ] at h;cases h;exact jS
  ·refine bL ?_
   try simp only [aR,bJ]
   refine dY ?_;refine ⟨c4,EO _,(i64.wrap (v2+1)),j3,?_⟩;simp only [go_sem,seval,bB,e7]
 ·refine gE ?_
  try simp only [cV,cM,↓reduceIte,aR]
  obtain rfl:=aZ j3;simp only [SP] at h;refine bC ?_;refine cB ?_;cases h;exact jS
def vC (f:Int->Int->Option Int):Prop:=∀a0 a1 r,f a0 a1=some r->Ey prog 183 [.lit (.int .u64 a0),.li a1] (.lit (.int .u64 r))
theorem BN:vC (lK):=λa0 a1 r h q m vs hv=>SC.wva hv (fF func183 call183 ntmps183 results183 rfl (wk .z q m (lK.eq_1 _ _) h))
instance:rX 183 (vC lK):=⟨BN⟩
def Fp (f:Bool->Option Int):Prop:=∀a0 r,f a0=some r->Ey prog 184 [.lb a0] (.lit (.int .u64 r))
theorem IC:Fp (uO):=λa0 r h q m vs hv=>SC.wva hv (fF func184 call184 ntmps184 results184 rfl (wk .z q m (uO.eq_1 _) h))
instance:rX 184 (Fp uO):=⟨IC⟩
def KA (f:cQ->Int->Int->Option Int):Prop:=∀a0 a1 a2 r,f a0 a1 a2=some r->Ey prog 170 [.ls a0,.lit (.int .u64 a1),.lit (.int .u64 a2)] (.lit (.int .u64 r))
theorem Fo:KA (wG):=λa0 a1 a2 r h q m vs hv=>SC.wva hv (fF func170 call170 ntmps170 results170 rfl (wk .z q m (wG.eq_1 _ _ _) h))
def Bz (f:aE->aF->(List Int)->Option (Int × aE)):Prop:=∀a0 a1 a2 r,f a0 a1 a2=some r->∀(q:Pa) (m:M) (vs:List V) (P0:Pa) (zP0:Nat),vs.map V.weak1=[.ptr P0 0,.agg ((aF.C a1)),.list .none (a2.map (cI .u64))]/\m.blk P0=some ((aK.C a0.p_)++[.li a0.dO,.li a0.cN,.li a0.e_,.list .self (a0.bT.map bE.C)])/\m.ver P0 4=zP0+a0.bT.length/\m.gl 3=.eptr [(cA bY.C eY)] 0 0->SC prog 141 vs q m (λv Y=>v=.lit (.int .u64 r.1)/\Y=(m.setv P0 4 ((aK.C r.2.p_)++[.li r.2.dO,.li r.2.cN,.li r.2.e_,.list .self (r.2.bT.map bE.C)]) (zP0+r.2.bT.length)))
theorem AU (n:Nat):Bz (fQ n):=by
 rintro a0 a1 a2 r h q m vs P0 zP0 ⟨hv,hmP0,o0,hg3⟩;refine SC.wv hv ?_;refine SC.ap hmP0 λu0 l0=>?_
 try simp only [go_sem] at hmP0 l0
 refine oE func141 call141 ntmps141 results141 ?_;unfold fQ at h;refine bC ?_;refine aN ?_;obtain ⟨y2,j2,h⟩:=aD h;refine rE 15 (λX Y=>X 0=.ptr P0 0/\X 2=.list .none (a2.map (cI .u64))/\X 4=.ptr (0::q) 0/\X 7=.lb y2/\Y.blk P0=some ((aK.C a0.p_)++[.li a0.dO,.li a0.cN,.li a0.e_,.list .self (a0.bT.map bE.C)])/\Y.blk (0::q)=some ((aF.C a1))/\Y.ver P0 4=zP0+a0.bT.length/\Y.gl=m.gl/\m.back q Y=(m.setv P0 4 ((aK.C a0.p_)++[.li a0.dO,.li a0.cN,.li a0.e_,.list .self (a0.bT.map bE.C)]) (zP0+a0.bT.length))) ?_ ?_
 ·rcases mL j2 with ⟨c3,j2⟩ | ⟨c3,j2⟩
  ·obtain ⟨x4,h8,j2⟩:=aD j2;obtain ⟨f5,f6,f7⟩:=aY h8;have f9:a1.aM[0]? = some x4:=f7;refine dY ?_;obtain rfl:=aZ j2;refine ⟨zb,?_⟩;simp only [go_sem,seval,bB,bG,l0,jY o0,o0,jZ u0,hmP0]
  ·refine bX λK hK=>?_;simp only [go_sem,seval,c3];apply hK;obtain rfl:=aZ j2;refine ⟨zb,?_⟩;simp only [go_sem,seval,bB,bG,l0,jY o0,o0,jZ u0,hmP0]
 ·intro E10 m11 e12 _;refine bC ?_;refine aN (bC ?_);refine cY h (λc13 h=>?_) (λc13 h=>?_)
  ·obtain ⟨x14,h18,h⟩:=aD h;obtain ⟨f15,f16,f17⟩:=aY h18;have f19:a2[1]? = some x14:=f17;refine dY ?_;refine aN (bC ?_);refine cY h (λc20 h=>?_) (λc20 h=>?_)
   ·refine aN ?_;obtain ⟨x21,h26,h⟩:=aD h;obtain ⟨f23,f24,f25⟩:=aY h26;have f27:a2[0]? = some x21:=f25;obtain ⟨x22,h28,h⟩:=aD h;refine eV λK hK=>?_;simp only [go_sem,seval,c20,f23,f24,f27,e12];refine SC.bA (Fo a1.eG x21 x14 _ h28 _ _ _) ?_;simp only [go_sem,seval];apply hK;refine cB ?_
    try simp only [cE]
    cases h;refine ⟨zc,?_⟩;simp only [go_sem,seval,l0,jY o0,e12]
   ·refine bL ?_
    refine aN (aN ?_);obtain ⟨y29,j29,h⟩:=aD h;refine rE 32 (λX Y=>X 0=.ptr P0 0/\X 2=.list .none (a2.map (cI .u64))/\X 4=.ptr (0::q) 0/\X 8=.lit (.int .u64 x14)/\X 47=.lb y29/\Y.blk P0=some ((aK.C a0.p_)++[.li a0.dO,.li a0.cN,.li a0.e_,.list .self (a0.bT.map bE.C)])/\Y.blk (0::q)=some ((aF.C a1))/\Y.ver P0 4=zP0+a0.bT.length/\Y.gl=m.gl/\m.back q Y=(m.setv P0 4 ((aK.C a0.p_)++[.li a0.dO,.li a0.cN,.li a0.e_,.list .self (a0.bT.map bE.C)]) (zP0+a0.bT.length))) ?_ ?_
    ·rcases mL j29 with ⟨c30,j29⟩ | ⟨c30,j29⟩
     ·refine dY ?_;obtain rfl:=aZ j29;refine ⟨zb,?_⟩;simp only [go_sem,seval,l0,jY o0,e12]
     ·refine dY ?_;obtain rfl:=aZ j29;refine ⟨zb,?_⟩;simp only [go_sem,seval,l0,jY o0,e12]
    ·intro E31 m32 e33 _;refine cY h (λc34 h=>?_) (λc34 h=>?_)
     ·obtain ⟨x35,h40,h⟩:=aD h;obtain ⟨f37,f38,f39⟩:=aY h40;have f41:a2[0]? = some x35:=f39;obtain ⟨x36,h42,h⟩:=aD h;refine bX λK hK=>?_;simp only [go_sem,seval,f37,f38,f41,e33];refine SC.bA (lI a0 4 (u32.wrap x35) (u32.wrap x14) _ h42 _ _ _ P0 zP0) ?_;simp only [go_sem,seval];apply hK;refine aN ?_;obtain ⟨x43,h45,h⟩:=aD h;refine bX λK hK=>?_;simp only [go_sem,seval,jZ u0,e33];refine SC.bA (Aw n a1.eG _ h45 _ _ _) ?_;simp only [go_sem,seval];apply hK;refine aN (bC ?_);refine cK ?_;obtain ⟨y49,j49,h⟩:=aD h;refine rG (λc X Y=>∃v47 v48,cU a2 c v47 v48=some y49/\X 0=.ptr P0 0/\X 9=.ptr (44::q) 0/\X 60=.list .none (a2.map (cI .u64))/\X 61=.li (a2.length:Int)/\X 62=.li v47/\Y.blk P0=some ((aK.C x36.p_)++[.li x36.dO,.li x36.cN,.li x36.e_,.list .self (x36.bT.map bE.C)])/\Y.blk (44::q)=some ([.li v48.eG,.lw v48.N_,.list .self (v48.aM.map bH.C)])/\Y.ver P0 4=zP0+x36.bT.length/\Y.gl=m.gl/\m.back q Y=(m.setv P0 4 ((aK.C x36.p_)++[.li x36.dO,.li x36.cN,.li x36.e_,.list .self (x36.bT.map bE.C)]) (zP0+x36.bT.length))) n ⟨0,(bH.mk x43 0 []),j49,?_⟩ ?_
      ·simp only [go_sem,seval,bB,dI,l0,dR u0,jY o0,jZ u0,e33]
      rintro i46 c50 E51 m52 ⟨v47,v48,j49,e53⟩ _
      rcases c50 with _ | c50
      ·cases j49
      rw [cU] at j49;refine bC ?_;refine aN (cY j49 (λc54 j49=>?_) (λc54 j49=>?_))
      ·refine bL ?_
       refine aN (cK (aN ?_));obtain ⟨x55,h59,j49⟩:=aD j49;obtain ⟨f56,f57,f58⟩:=aY h59;refine dY ?_;obtain ⟨x60,h61,j49⟩:=aD j49;obtain ⟨f62,j49⟩:=bN j49;have f63:v48.aM.length+1<=1073741824:=by first | omega | (simp only [nB,jJ,mO] at f62 ⊢;omega)
       have f64:v48.aM.length<=1073741823:=by first | omega | (simp only [nB,jJ,mO] at f62 ⊢;omega)
       refine eV λK hK=>?_;simp only [go_sem,seval,e53];refine SC.bA (DL (u32.wrap x55) _ h61 _ _ _) ?_;simp only [go_sem,seval,f63,e53];apply hK;simp only [aR,bJ];refine dY ?_;refine ⟨c50,EO _,(i64.wrap (v47+1)),({ v48 with aM:=(v48.aM++[x60]) }:bH),j49,?_⟩;simp only [go_sem,seval,bB,dI,bZ,jZ u0,e53]
      ·refine gE ?_
       try simp only [cV,cM,↓reduceIte,aR]
       obtain rfl:=aZ j49;refine aN ?_;obtain ⟨x65,h66,h⟩:=aD h;refine bX λK hK=>?_;simp only [go_sem,seval,c54,e53];refine SC.bA (wT n v48 [] _ h66 _ _ _) ?_;simp only [go_sem,seval];apply hK;refine aN (bC ?_);refine cY h (λc67 h=>?_) (λc67 h=>?_)
       ·refine dY ?_;refine bC ?_;refine cB ?_;cases h;exact jS
       ·refine bL ?_
        refine bC ?_;refine cB ?_;cases h;exact jS
     ·refine bL ?_
      refine aN ?_;obtain ⟨x71,h73,h⟩:=aD h;refine bX λK hK=>?_;simp only [go_sem,seval,e33];refine SC.bA (Aw n a1.eG _ h73 _ _ _) ?_;simp only [go_sem,seval];apply hK;refine aN (bC ?_);refine cK ?_;obtain ⟨y77,j77,h⟩:=aD h;refine rG (λc X Y=>∃v75 v76,cU a2 c v75 v76=some y77/\X 0=.ptr P0 0/\X 9=.ptr (36::q) 0/\X 60=.list .none (a2.map (cI .u64))/\X 61=.li (a2.length:Int)/\X 62=.li v75/\Y.blk P0=some ((aK.C a0.p_)++[.li a0.dO,.li a0.cN,.li a0.e_,.list .self (a0.bT.map bE.C)])/\Y.blk (36::q)=some ([.li v76.eG,.lw v76.N_,.list .self (v76.aM.map bH.C)])/\Y.ver P0 4=zP0+a0.bT.length/\Y.gl=m.gl/\m.back q Y=(m.setv P0 4 ((aK.C a0.p_)++[.li a0.dO,.li a0.cN,.li a0.e_,.list .self (a0.bT.map bE.C)]) (zP0+a0.bT.length))) n ⟨0,(bH.mk x71 0 []),j77,?_⟩ ?_
      ·simp only [go_sem,seval,bB,dI,l0,jY o0,jZ u0,e33]
      rintro i74 c78 E79 m80 ⟨v75,v76,j77,e81⟩ _
      rcases c78 with _ | c78
      ·cases j77
      rw [cU] at j77;refine bC ?_;refine aN (cY j77 (λc82 j77=>?_) (λc82 j77=>?_))
      ·refine bL ?_
       refine aN (cK (aN ?_));obtain ⟨x83,h87,j77⟩:=aD j77;obtain ⟨f84,f85,f86⟩:=aY h87;refine dY ?_;obtain ⟨x88,h89,j77⟩:=aD j77;obtain ⟨f90,j77⟩:=bN j77;have f91:v76.aM.length+1<=1073741824:=by first | omega | (simp only [nB,jJ,mO] at f90 ⊢;omega)
       have f92:v76.aM.length<=1073741823:=by first | omega | (simp only [nB,jJ,mO] at f90 ⊢;omega)
       refine eV λK hK=>?_;simp only [go_sem,seval,e81];refine SC.bA (DL (u32.wrap x83) _ h89 _ _ _) ?_;simp only [go_sem,seval,f91,e81];apply hK;simp only [aR,bJ];refine dY ?_;refine ⟨c78,EO _,(i64.wrap (v75+1)),({ v76 with aM:=(v76.aM++[x88]) }:bH),j77,?_⟩;simp only [go_sem,seval,bB,dI,bZ,l0,jY o0,jZ u0,e81]
      ·refine gE ?_
       try simp only [cV,cM,↓reduceIte,aR]
       obtain rfl:=aZ j77;refine aN ?_;obtain ⟨x93,h94,h⟩:=aD h;refine bX λK hK=>?_;simp only [go_sem,seval,c82,e81];refine SC.bA (wT n v76 [] _ h94 _ _ _) ?_;simp only [go_sem,seval];apply hK;refine aN (bC ?_);refine cY h (λc95 h=>?_) (λc95 h=>?_)
       ·refine dY ?_;refine bC ?_;refine cB ?_;cases h;refine ⟨zc,?_⟩;simp only [go_sem,seval,dW u0,l0,jY o0,e81]
       ·refine bL ?_
        refine bC ?_;refine cB ?_;cases h;refine ⟨zc,?_⟩;simp only [go_sem,seval,l0,jY o0,e81]
  ·refine bL ?_
   refine aN (bC ?_);refine cY h (λc99 h=>?_) (λc99 h=>?_)
   ·refine aN ?_;obtain ⟨x100,h105,h⟩:=aD h;obtain ⟨f102,f103,f104⟩:=aY h105;have f106:a2[0]? = some x100:=f104;obtain ⟨x101,h107,h⟩:=aD h;refine eV λK hK=>?_;simp only [go_sem,seval,c99,f102,f103,f106,e12];refine SC.bA (Fo a1.eG x100 0 _ h107 _ _ _) ?_;simp only [go_sem,seval];apply hK;refine cB ?_
    try simp only [cE]
    cases h;refine ⟨zc,?_⟩;simp only [go_sem,seval,l0,jY o0,e12]
   ·refine bL ?_
    refine aN (aN ?_);obtain ⟨y108,j108,h⟩:=aD h;refine rE 28 (λX Y=>X 0=.ptr P0 0/\X 2=.list .none (a2.map (cI .u64))/\X 4=.ptr (0::q) 0/\X 8=.lit (.int .u64 0)/\X 47=.lb y108/\Y.blk P0=some ((aK.C a0.p_)++[.li a0.dO,.li a0.cN,.li a0.e_,.list .self (a0.bT.map bE.C)])/\Y.blk (0::q)=some ((aF.C a1))/\Y.ver P0 4=zP0+a0.bT.length/\Y.gl=m.gl/\m.back q Y=(m.setv P0 4 ((aK.C a0.p_)++[.li a0.dO,.li a0.cN,.li a0.e_,.list .self (a0.bT.map bE.C)]) (zP0+a0.bT.length))) ?_ ?_
    ·rcases mL j108 with ⟨c109,j108⟩ | ⟨c109,j108⟩
     ·refine dY ?_;obtain rfl:=aZ j108;refine ⟨zb,?_⟩;simp only [go_sem,seval,l0,jY o0,e12]
     ·refine dY ?_;obtain rfl:=aZ j108;refine ⟨zb,?_⟩;simp only [go_sem,seval,l0,jY o0,e12]
    ·intro E110 m111 e112 _;refine cY h (λc113 h=>?_) (λc113 h=>?_)
     ·obtain ⟨x114,h119,h⟩:=aD h;obtain ⟨f116,f117,f118⟩:=aY h119;have f120:a2[0]? = some x114:=f118;obtain ⟨x115,h121,h⟩:=aD h;refine bX λK hK=>?_;simp only [go_sem,seval,f116,f117,f120,e112];refine SC.bA (lI a0 4 (u32.wrap x114) (u32.wrap 0) _ h121 _ _ _ P0 zP0) ?_;simp only [go_sem,seval];apply hK;refine aN ?_;obtain ⟨x122,h124,h⟩:=aD h;refine bX λK hK=>?_;simp only [go_sem,seval,jZ u0,e112];refine SC.bA (Aw n a1.eG _ h124 _ _ _) ?_;simp only [go_sem,seval];apply hK;refine aN (bC ?_);refine cK ?_;obtain ⟨y128,j128,h⟩:=aD h;refine rG (λc X Y=>∃v126 v127,cU a2 c v126 v127=some y128/\X 0=.ptr P0 0/\X 9=.ptr (40::q) 0/\X 60=.list .none (a2.map (cI .u64))/\X 61=.li (a2.length:Int)/\X 62=.li v126/\Y.blk P0=some ((aK.C x115.p_)++[.li x115.dO,.li x115.cN,.li x115.e_,.list .self (x115.bT.map bE.C)])/\Y.blk (40::q)=some ([.li v127.eG,.lw v127.N_,.list .self (v127.aM.map bH.C)])/\Y.ver P0 4=zP0+x115.bT.length/\Y.gl=m.gl/\m.back q Y=(m.setv P0 4 ((aK.C x115.p_)++[.li x115.dO,.li x115.cN,.li x115.e_,.list .self (x115.bT.map bE.C)]) (zP0+x115.bT.length))) n ⟨0,(bH.mk x122 0 []),j128,?_⟩ ?_
      ·simp only [go_sem,seval,bB,dI,l0,dR u0,jY o0,jZ u0,e112]
      rintro i125 c129 E130 m131 ⟨v126,v127,j128,e132⟩ _
      rcases c129 with _ | c129
      ·cases j128
      rw [cU] at j128;refine bC ?_;refine aN (cY j128 (λc133 j128=>?_) (λc133 j128=>?_))
      ·refine bL ?_
       refine aN (cK (aN ?_));obtain ⟨x134,h138,j128⟩:=aD j128;obtain ⟨f135,f136,f137⟩:=aY h138;refine dY ?_;obtain ⟨x139,h140,j128⟩:=aD j128;obtain ⟨f141,j128⟩:=bN j128;have f142:v127.aM.length+1<=1073741824:=by first | omega | (simp only [nB,jJ,mO] at f141 ⊢;omega)
       have f143:v127.aM.length<=1073741823:=by first | omega | (simp only [nB,jJ,mO] at f141 ⊢;omega)
       refine eV λK hK=>?_;simp only [go_sem,seval,e132];refine SC.bA (DL (u32.wrap x134) _ h140 _ _ _) ?_;simp only [go_sem,seval,f142,e132];apply hK;simp only [aR,bJ];refine dY ?_;refine ⟨c129,EO _,(i64.wrap (v126+1)),({ v127 with aM:=(v127.aM++[x139]) }:bH),j128,?_⟩;simp only [go_sem,seval,bB,dI,bZ,jZ u0,e132]
      ·refine gE ?_
       try simp only [cV,cM,↓reduceIte,aR]
       obtain rfl:=aZ j128;refine aN ?_;obtain ⟨x144,h145,h⟩:=aD h;refine bX λK hK=>?_;simp only [go_sem,seval,c133,e132];refine SC.bA (wT n v127 [] _ h145 _ _ _) ?_;simp only [go_sem,seval];apply hK;refine aN (bC ?_);refine cY h (λc146 h=>?_) (λc146 h=>?_)
       ·refine dY ?_;refine bC ?_;refine cB ?_;cases h;exact jS
       ·refine bL ?_
        refine bC ?_;refine cB ?_;cases h;exact jS
     ·refine bL ?_
      refine aN ?_;obtain ⟨x150,h152,h⟩:=aD h;refine bX λK hK=>?_;simp only [go_sem,seval,e112];refine SC.bA (Aw n a1.eG _ h152 _ _ _) ?_;simp only [go_sem,seval];apply hK;refine aN (bC ?_);refine cK ?_;obtain ⟨y156,j156,h⟩:=aD h;refine rG (λc X Y=>∃v154 v155,cU a2 c v154 v155=some y156/\X 0=.ptr P0 0/\X 9=.ptr (32::q) 0/\X 60=.list .none (a2.map (cI .u64))/\X 61=.li (a2.length:Int)/\X 62=.li v154/\Y.blk P0=some ((aK.C a0.p_)++[.li a0.dO,.li a0.cN,.li a0.e_,.list .self (a0.bT.map bE.C)])/\Y.blk (32::q)=some ([.li v155.eG,.lw v155.N_,.list .self (v155.aM.map bH.C)])/\Y.ver P0 4=zP0+a0.bT.length/\Y.gl=m.gl/\m.back q Y=(m.setv P0 4 ((aK.C a0.p_)++[.li a0.dO,.li a0.cN,.li a0.e_,.list .self (a0.bT.map bE.C)]) (zP0+a0.bT.length))) n ⟨0,(bH.mk x150 0 []),j156,?_⟩ ?_
      ·simp only [go_sem,seval,bB,dI,l0,jY o0,jZ u0,e112]
      rintro i153 c157 E158 m159 ⟨v154,v155,j156,e160⟩ _
      rcases c157 with _ | c157
      ·cases j156
      rw [cU] at j156;refine bC ?_;refine aN (cY j156 (λc161 j156=>?_) (λc161 j156=>?_))
      ·refine bL ?_
       refine aN (cK (aN ?_));obtain ⟨x162,h166,j156⟩:=aD j156;obtain ⟨f163,f164,f165⟩:=aY h166;refine dY ?_;obtain ⟨x167,h168,j156⟩:=aD j156;obtain ⟨f169,j156⟩:=bN j156;have f170:v155.aM.length+1<=1073741824:=by first | omega | (simp only [nB,jJ,mO] at f169 ⊢;omega)
       have f171:v155.aM.length<=1073741823:=by first | omega | (simp only [nB,jJ,mO] at f169 ⊢;omega)
       refine eV λK hK=>?_;simp only [go_sem,seval,e160];refine SC.bA (DL (u32.wrap x162) _ h168 _ _ _) ?_;simp only [go_sem,seval,f170,e160];apply hK;simp only [aR,bJ];refine dY ?_;refine ⟨c157,EO _,(i64.wrap (v154+1)),({ v155 with aM:=(v155.aM++[x167]) }:bH),j156,?_⟩;simp only [go_sem,seval,bB,dI,bZ,l0,jY o0,jZ u0,e160]
      ·refine gE ?_
       try simp only [cV,cM,↓reduceIte,aR]
       obtain rfl:=aZ j156;refine aN ?_;obtain ⟨x172,h173,h⟩:=aD h;refine bX λK hK=>?_;simp only [go_sem,seval,c161,e160];refine SC.bA (wT n v155 [] _ h173 _ _ _) ?_;simp only [go_sem,seval];apply hK;refine aN (bC ?_);refine cY h (λc174 h=>?_) (λc174 h=>?_)
       ·refine dY ?_;refine bC ?_;refine cB ?_;cases h;refine ⟨zc,?_⟩;simp only [go_sem,seval,dW u0,l0,jY o0,e160]
       ·refine bL ?_
        refine bC ?_;refine cB ?_;cases h;refine ⟨zc,?_⟩;simp only [go_sem,seval,l0,jY o0,e160]
def mU (f:aE->aI->(List (List Int))->aF->Option (Int × aE)):Prop:=∀a0 a1 a2 a3 r,f a0 a1 a2 a3=some r->∀(q:Pa) (m:M) (vs:List V) (P0:Pa) (P1:Pa) (zP0:Nat) (W A:Pa) (AS:List Pa) (LS:List Nat),vs.map V.weak1=[.ptr P0 0,.ptr P1 0,.agg ((aF.C a3))]/\m.blk P0=some ((aK.C a0.p_)++[.li a0.dO,.li a0.cN,.li a0.e_,.list .self (a0.bT.map bE.C)])/\m.blk P1=some (Eo W A a1)/\m.ver P0 4=zP0+a0.bT.length/\oV m.hp W A AS LS a1.bP a1.aX a2/\(P0=P1)=False/\(P1=P0)=False/\m.gl 3=.eptr [(cA bY.C eY)] 0 0->SC prog 97 vs q m (λv Y=>v=.lit (.int .u64 r.1)/\Y=(m.setv P0 4 ((aK.C r.2.p_)++[.li r.2.dO,.li r.2.cN,.li r.2.e_,.list .self (r.2.bT.map bE.C)]) (zP0+r.2.bT.length)))
def pT (f:aE->aI->(List (List Int))->aF->Int->Option (Int × aE)):Prop:=∀a0 a1 a2 a3 a4 r,f a0 a1 a2 a3 a4=some r->∀(q:Pa) (m:M) (vs:List V) (P0:Pa) (P1:Pa) (zP0:Nat) (W A:Pa) (AS:List Pa) (LS:List Nat),vs.map V.weak1=[.ptr P0 0,.ptr P1 0,.agg ((aF.C a3)),.li a4]/\m.blk P0=some ((aK.C a0.p_)++[.li a0.dO,.li a0.cN,.li a0.e_,.list .self (a0.bT.map bE.C)])/\m.blk P1=some (Eo W A a1)/\m.ver P0 4=zP0+a0.bT.length/\oV m.hp W A AS LS a1.bP a1.aX a2/\(P0=P1)=False/\(P1=P0)=False/\m.gl 3=.eptr [(cA bY.C eY)] 0 0->SC prog 139 vs q m (λv Y=>v=.lw r.1/\Y=(m.setv P0 4 ((aK.C r.2.p_)++[.li r.2.dO,.li r.2.cN,.li r.2.e_,.list .self (r.2.bT.map bE.C)]) (zP0+r.2.bT.length)))
theorem AT {oG} (Bm:pT oG) {dN} (rA:mU dN) (n:Nat):mU (dG oG dN n):=by
 rintro a0 a1 a2 a3 r h q m vs P0 P1 zP0 W A AS LS ⟨hv,hmP0,hmP1,o0,hkF,hn0_1,hn1_0,hg3⟩;refine SC.wv hv ?_;refine SC.apart hmP0 λu0=>?_;refine SC.apart hmP1 λu1=>?_;have l0:=pF hmP0
 try simp only [go_sem] at hmP0 l0
 try simp only [go_sem] at hmP1
 refine oE func97 call97 ntmps97 results97 ?_;unfold dG at h;refine bC ?_;refine aN (bC ?_);refine cK (bC ?_);refine cY h (λc2 h=>?_) (λc2 h=>?_)
 ·refine bC ?_;refine cB ?_
  try simp only [cE,gP]
  cases h;refine ⟨zc,?_⟩;simp only [go_sem,seval,bB,bG,l0,jY o0]
 ·refine bC ?_;refine cY h (λc3 h=>?_) (λc3 h=>?_)
  ·refine aN ?_;obtain ⟨x4,h8,h⟩:=aD h;obtain ⟨f5,f6,f7⟩:=aY h8;obtain ⟨w9,d10⟩:=tP (f:=JX) f7;refine eV λK hK=>?_;simp only [go_sem,seval,jZ u1,hkF.w,c3,f5,f6,d10,hmP1];apply hK;refine cB ?_
   try simp only [cE,gP]
   cases h;refine ⟨zc,?_⟩;simp only [go_sem,seval,bB,bG,l0,jY o0]
  ·refine bC ?_;refine cY h (λc11 h=>?_) (λc11 h=>?_)
   ·refine aN ?_;obtain ⟨x12,h17,h⟩:=aD h;obtain ⟨f14,f15,f16⟩:=aY h17;have f18:a3.aM[0]? = some x12:=f16;obtain ⟨x13,h19,h⟩:=aD h;refine eV λK hK=>?_;simp only [go_sem,seval,c11,f14,f15,f18];refine SC.by_ (Bm a0 a1 a2 x12 a3.cZ _ h19 _ _ _ P0 P1 zP0 W A AS LS (by simp only [go_sem,seval,jZ u0,jZ u1,hkF,hn0_1,hn1_0,hmP0,o0,hmP1,hg3])) ?_;simp only [go_sem,seval];apply hK;refine aN (aN ?_);obtain ⟨x20,h21,h⟩:=aD h;refine bX λK hK=>?_;simp only [go_sem,seval];refine SC.bA (dC x13.2 _ h21 _ _ _ P0 zP0) ?_;simp only [go_sem,seval];apply hK;refine cY h (λc22 h=>?_) (λc22 h=>?_)
    ·refine bC ?_;refine cB ?_
     try simp only [cE,gP]
     cases h;refine ⟨zc,?_⟩;simp only [go_sem,seval,bB,bG,dR u0]
    ·refine bL ?_
     refine aN ?_;obtain ⟨x23,h30,h⟩:=aD h;obtain ⟨f27,f28,f29⟩:=aY h30;obtain ⟨w31,d32⟩:=tP (f:=(Ac AS LS)) f29;obtain ⟨x24,h36,h⟩:=aD h;obtain ⟨f33,f34,f35⟩:=aY h36;have hx_a_25:=f35;obtain ⟨a_25,d37,d38,ex_a_25,nw_a_25,na_a_25⟩:=oV.get hkF f33 f35;obtain ⟨x26,h42,h⟩:=aD h;obtain ⟨f39,f40,f41⟩:=aY h42;obtain ⟨w43,d44⟩:=tP (f:=DC) f41;refine eV λK hK=>?_;simp only [go_sem,seval,jZ u0,jZ u1,hkF.a,hn1_0,c22,f27,f28,d32,d37,d38,f39,f40,d44,hmP1];apply hK;refine cB ?_
     try simp only [cE,gP]
     cases h;refine ⟨zc,?_⟩;simp only [go_sem,seval,bB,bG,dR u0]
   ·refine bL ?_
    try simp only [aR,bJ]
    refine bC ?_;refine aN (bC ?_);refine cK ?_;obtain ⟨y49,j49,h⟩:=aD h;refine zU 8 ([].map (cI .u64)) rfl (by simp only [go_sem,seval]) ?_;refine rG (λc X Y=>∃v46 v47 v48 o_v46 j_v46,eI dN a3 a1 a2 c v46 v47 v48=some y49/\X 0=.ptr P0 0/\X 1=.ptr P1 0/\X 5=.ptr (0::q) 0/\X 8=.list (.st (.anon o_v46 j_v46)) (v46.map (cI .u64))/\Y.tok o_v46 j_v46=true/\q <:+ o_v46/\X 57=.list .none (a3.aM.map aF.C)/\X 58=.li (a3.aM.length:Int)/\X 59=.li v47/\Y.blk P0=some ((aK.C v48.p_)++[.li v48.dO,.li v48.cN,.li v48.e_,.list .self (v48.bT.map bE.C)])/\Y.blk P1=some (Eo W A a1)/\Y.blk (0::q)=some ((aF.C a3))/\Y.ver P0 4=zP0+v48.bT.length/\Y.gl=m.gl/\Y.hp=m.hp/\m.back q Y=(m.setv P0 4 ((aK.C v48.p_)++[.li v48.dO,.li v48.cN,.li v48.e_,.list .self (v48.bT.map bE.C)]) (zP0+v48.bT.length))) n ⟨[],0,a0,(15::q),0,j49,?_⟩ ?_
    ·simp only [go_sem,seval,bB,bZ,bG,l0,jY o0,o0,jZ u0,jZ u1,hmP0,hmP1]
    rintro i45 c50 E51 m52 ⟨v46,v47,v48,o_v46,j_v46,j49,e53⟩ _
    rcases c50 with _ | c50
    ·cases j49
    rw [eI] at j49;refine bC ?_;refine aN (cY j49 (λc54 j49=>?_) (λc54 j49=>?_))
    ·refine bL ?_
     refine aN (cK (aN ?_));obtain ⟨x55,h60,j49⟩:=aD j49;obtain ⟨f57,f58,f59⟩:=aY h60;refine dY ?_;refine aN ?_;obtain ⟨x61,h62,j49⟩:=aD j49;refine bX λK hK=>?_;simp only [go_sem,seval,e53];refine SC.by_ (rA v48 a1 a2 x55 _ h62 _ _ _ P0 P1 zP0 W A AS LS (by simp only [go_sem,seval,jZ u0,jZ u1,hkF,hn0_1,hn1_0,e53,hg3])) ?_;simp only [go_sem,seval];apply hK;refine aN (aN ?_);obtain ⟨x63,h64,j49⟩:=aD j49;refine bX λK hK=>?_;simp only [go_sem,seval,e53];refine SC.bA (dC x61.2 _ h64 _ _ _ P0 zP0) ?_;simp only [go_sem,seval];apply hK;refine cY j49 (λc65 j49=>?_) (λc65 j49=>?_)
     ·refine bC ?_;refine cB ?_
      try simp only [cE,gP]
      obtain rfl:=aZ j49;simp only [PQ] at h;cases h;refine ⟨zc,?_⟩;simp only [go_sem,seval,bB,dR u0,e53]
     ·refine bL ?_
      try simp only [aR]
      obtain ⟨f66,j49⟩:=bN j49;have f67:v46.length+1<=1073741824:=by first | omega | (simp only [nB,jJ,mO] at f66 ⊢;omega)
      have f68:v46.length<=1073741823:=by first | omega | (simp only [nB,jJ,mO] at f66 ⊢;omega)
      refine kM λK hK=>?_;simp only [go_sem,seval,c65,f67,e53];apply hK;simp only [aR,bJ];refine dY ?_;refine ⟨c50,EO _,(v46++[x61.1]),(i64.wrap (v47+1)),x61.2,(15::i45::16::q),0,j49,?_⟩;simp only [go_sem,seval,bB,bZ,dR u0,jZ u0,jZ u1,hn1_0,e53]
    ·refine gE ?_
     try simp only [cV,cM,↓reduceIte,aR]
     obtain rfl:=aZ j49;simp only [SP] at h;refine aN (aN ?_);obtain ⟨x69,h70,h⟩:=aD h;refine bX λK hK=>?_;simp only [go_sem,seval,c54,e53];refine SC.bA (ID a3.eG v46 _ h70 _ _ _) ?_;simp only [go_sem,seval];apply hK;refine bC ?_;refine cY h (λc71 h=>?_) (λc71 h=>?_)
     ·refine bC ?_;refine cB ?_
      try simp only [cE]
      cases h;exact jS
     ·refine bL ?_
      refine aN ?_;obtain ⟨x72,h73,h⟩:=aD h;refine bX λK hK=>?_;simp only [go_sem,seval,c71,e53];refine SC.bA (AU n v48 a3 v46 _ h73 _ _ _ P0 zP0) ?_;simp only [go_sem,seval];apply hK;refine cB ?_;cases h;refine ⟨zc,?_⟩;simp only [go_sem,seval,dR u0,e53]
theorem AV {dN} (rA:mU dN) (n:Nat):pT (jE dN n):=by
 rintro a0 a1 a2 a3 a4 r h q m vs P0 P1 zP0 W A AS LS ⟨hv,hmP0,hmP1,o0,hkF,hn0_1,hn1_0,hg3⟩;refine SC.wv hv ?_;refine SC.apart hmP0 λu0=>?_;refine SC.apart hmP1 λu1=>?_;have l0:=pF hmP0
 try simp only [go_sem] at hmP0 l0
 try simp only [go_sem] at hmP1
 refine oE func139 call139 ntmps139 results139 ?_;unfold jE at h;refine bC ?_;refine aN ?_;obtain ⟨x2,h3,h⟩:=aD h;refine bX λK hK=>?_;simp only [go_sem,seval];refine SC.by_ (rA a0 a1 a2 a3 _ h3 _ _ _ P0 P1 zP0 W A AS LS (by simp only [go_sem,seval,lR u0,lR u1,hkF,hn0_1,hn1_0,hmP0,o0,hmP1,hg3])) ?_;simp only [go_sem,seval];apply hK;refine aN (aN ?_);obtain ⟨x4,h5,h⟩:=aD h;refine bX λK hK=>?_;simp only [go_sem,seval];refine SC.bA (dC x2.2 _ h5 _ _ _ P0 zP0) ?_;simp only [go_sem,seval];apply hK;refine cY h (λc6 h=>?_) (λc6 h=>?_)
 ·refine bC ?_;refine cB ?_
  try simp only [cE]
  cases h;refine ⟨zc,?_⟩;simp only [go_sem,seval,bB,bG,dR u0]
 ·refine bL ?_
  refine aN ?_;obtain ⟨x7,h13,h⟩:=aD h;obtain ⟨f10,f11,f12⟩:=aY h13;obtain ⟨w14,d15⟩:=tP (f:=(Ac AS LS)) f12;obtain ⟨x8,h19,h⟩:=aD h;obtain ⟨f16,f17,f18⟩:=aY h19;have hx_a_9:=f18;obtain ⟨a_9,d20,d21,ex_a_9,nw_a_9,na_a_9⟩:=oV.get hkF f16 f18;refine bX λK hK=>?_;simp only [go_sem,seval,lR u1,hkF.a,hn1_0,c6,f10,f11,d15,d20,hmP1];apply hK;refine aN ?_;obtain ⟨x22,h23,h⟩:=aD h;refine bX λK hK=>?_;simp only [go_sem,seval];refine SC.bA (lI x2.2 3 (u32.wrap x2.1) (u32.wrap (x8.length:Int)) _ h23 _ _ _ P0 zP0) ?_;simp only [go_sem,seval];apply hK;refine aN (bC ?_);refine cY h (λc24 h=>?_) (λc24 h=>?_)
  ·refine bC ?_;refine bC ?_;refine cB ?_
   try simp only [cE]
   cases h;refine ⟨zc,?_⟩;simp only [go_sem,seval,bB,bG,dR u0]
  ·refine bL ?_
   refine bC ?_;refine cB ?_;cases h;refine ⟨zc,?_⟩;simp only [go_sem,seval,bB,bG,dR u0]
theorem pX:∀n,mU (aV n)/\pT (fW n)
 | 0=>⟨λ_ _ _ _ _ h=>eO h,λ_ _ _ _ _ _ h=>eO h⟩
 | n+1=>
   have ih:=pX n
   ⟨AT ih.2 ih.1 n,AV ih.1 n⟩
theorem gB (n:Nat):mU (aV n):=(pX n).1
theorem CA (n:Nat):pT (fW n):=(pX n).2
def Fh (f:aI->(List (List Int))->Int->Int->Option (aI × (List (List Int)))):Prop:=∀a0 a1 a2 a3 r,f a0 a1 a2 a3=some r->∀(q:Pa) (m:M) (vs:List V) (P0:Pa) (W A:Pa) (AS:List Pa) (LS:List Nat),vs.map V.weak1=[.ptr P0 0,.li a2,.lit (.int .u64 a3)]/\m.blk P0=some (Eo W A a0)/\oV m.hp W A AS LS a0.bP a0.aX a1->SC prog 98 vs q m (λv Y=>v=.tup []/\Y=((m.set P0 (Eo W A r.1)).seth (uP m.hp W r.1.bP AS r.2))/\eW a0 a1 r.1 r.2)
theorem mB:Fh (cF):=by
 rintro a0 a1 a2 a3 r h q m vs P0 W A AS LS ⟨hv,hmP0,hkF⟩;refine SC.wv hv ?_;refine SC.ap hmP0 λu0 l0=>?_
 try simp only [go_sem] at hmP0 l0
 refine oE func98 call98 ntmps98 results98 ?_;unfold cF at h;refine bC ?_;refine cY h (λc1 h=>?_) (λc1 h=>?_)
 ·obtain ⟨x2,h9,h⟩:=aD h;obtain ⟨f6,f7,f8⟩:=aY h9;obtain ⟨w10,d11⟩:=tP (f:=JX) f8;have f3:a2.toNat+1<=a0.bP.length:=za
  have kp4:eW a0 a1 ({ a0 with bP:=(a0.bP.set a2.toNat a3) }:aI) a1:=eW.setW eW.refl;have hk5:oV (uP m.hp W ({ a0 with bP:=(a0.bP.set a2.toNat a3) }:aI).bP AS a1) W A AS LS ({ a0 with bP:=(a0.bP.set a2.toNat a3) }:aI).bP ({ a0 with bP:=(a0.bP.set a2.toNat a3) }:aI).aX a1:=oV.upk hkF kp4;refine kM λK hK=>?_;simp only [go_sem,seval,gR,hkF.w,f6,f7,f3,(oV.setW hkF),hmP0];apply hK;simp only [];cases h;refine ⟨zc,?_⟩;simp only [go_sem,bG,jQ,l0,yS,kp4]
 ·refine bL ?_;cases h;refine ⟨zc,?_⟩;simp only [go_sem,bG,l0,oV.same hkF,Ru,c1]
def Di (f:aE->aI->(List (List Int))->aA->Option (aE × aI × (List (List Int)))):Prop:=∀a0 a1 a2 a3 r,f a0 a1 a2 a3=some r->∀(q:Pa) (m:M) (vs:List V) (P0:Pa) (P1:Pa) (zP0:Nat) (W A:Pa) (AS:List Pa) (LS:List Nat),vs.map V.weak1=[.ptr P0 0,.ptr P1 0,.agg ((aA.C a3))]/\m.blk P0=some ((aK.C a0.p_)++[.li a0.dO,.li a0.cN,.li a0.e_,.list .self (a0.bT.map bE.C)])/\m.blk P1=some (Eo W A a1)/\m.ver P0 4=zP0+a0.bT.length/\oV m.hp W A AS LS a1.bP a1.aX a2/\(P0=P1)=False/\(P1=P0)=False/\m.gl 3=.eptr [(cA bY.C eY)] 0 0->SC prog 99 vs q m (λv Y=>v=.tup []/\Y=(m.fr P0 P1 ((aK.C r.1.p_)++[.li r.1.dO,.li r.1.cN,.li r.1.e_,.list .self (r.1.bT.map bE.C)]) (zP0+r.1.bT.length) (Eo W A r.2.1) (uP m.hp W r.2.1.bP AS r.2.2))/\eW a1 a2 r.2.1 r.2.2)
theorem Cz (n:Nat):Di (eF n):=by
 rintro a0 a1 a2 a3 r h q m vs P0 P1 zP0 W A AS LS ⟨hv,hmP0,hmP1,o0,hkF,hn0_1,hn1_0,hg3⟩;refine SC.wv hv ?_;refine SC.apart hmP0 λu0=>?_;refine SC.apart hmP1 λu1=>?_;have l0:=pF hmP0;have l1:=pF hmP1
 try simp only [go_sem] at hmP0 l0
 try simp only [go_sem] at hmP1 l1
 have hfs:=Hm hmP0 o0 hmP1;refine oE func99 call99 ntmps99 results99 ?_;unfold eF at h;refine bC ?_;refine aN ?_;obtain ⟨x2,h7,h⟩:=aD h;obtain ⟨f4,f5,f6⟩:=aY h7;have f8:a3.aM[0]? = some x2:=f6;obtain ⟨x3,h9,h⟩:=aD h;refine eV λK hK=>?_;simp only [go_sem,seval,f4,f5,f8];refine SC.by_ (CA n a0 a1 a2 x2 a3.cZ _ h9 _ _ _ P0 P1 zP0 W A AS LS (by simp only [go_sem,seval,lR u0,lR u1,hkF,hn0_1,hn1_0,hmP0,o0,hmP1,hg3])) ?_;simp only [go_sem,seval];apply hK;refine aN (aN ?_);obtain ⟨x10,h11,h⟩:=aD h;refine bX λK hK=>?_;simp only [go_sem,seval];refine SC.bA (dC x3.2 _ h11 _ _ _ P0 zP0) ?_;simp only [go_sem,seval];apply hK;refine cY h (λc12 h=>?_) (λc12 h=>?_)
 ·refine cB ?_
  try simp only [cE]
  cases h;refine ⟨zc,?_⟩;simp only [go_sem,bB,bG,dR u0,pO hmP1,oV.same hkF,c12]
 ·refine bL ?_
  refine aN ?_;obtain ⟨x13,h18,h⟩:=aD h;obtain ⟨f15,f16,f17⟩:=aY h18;have f19:a3.aM[1]? = some x13:=f17;obtain ⟨x14,h20,h⟩:=aD h;refine bX λK hK=>?_;simp only [go_sem,seval,lR u0,c12,f15,f16,f19];refine SC.by_ (gB n x3.2 a1 a2 x13 _ h20 _ _ _ P0 P1 zP0 W A AS LS (by simp only [go_sem,seval,lR u1,hkF,hn0_1,hn1_0,hmP1,hg3])) ?_;simp only [go_sem,seval];apply hK;refine aN ?_;obtain ⟨x21,h22,h⟩:=aD h;refine bX λK hK=>?_;simp only [go_sem,seval];refine SC.bA (dC x14.2 _ h22 _ _ _ P0 zP0) ?_;simp only [go_sem,seval];apply hK;refine cY h (λc23 h=>?_) (λc23 h=>?_)
  ·obtain ⟨x24,h34,h⟩:=aD h;obtain ⟨f31,f32,f33⟩:=aY h34;obtain ⟨w35,d36⟩:=tP (f:=(Ac AS LS)) f33;obtain ⟨x25,h40,h⟩:=aD h;obtain ⟨f37,f38,f39⟩:=aY h40;have hx_a_26:=f39;obtain ⟨a_26,d41,d42,ex_a_26,nw_a_26,na_a_26⟩:=oV.get hkF f37 f39;obtain ⟨x27,h46,h⟩:=aD h;obtain ⟨f43,f44,f45⟩:=aY h46;obtain ⟨w47,d48⟩:=tP (f:=DC) f45;have f28:x3.1.toNat+1<=x25.length:=za
   have kp29:eW a1 a2 a1 (a2.set x24.toNat (x25.set x3.1.toNat (u32.wrap x14.1))):=eW.setA eW.refl hx_a_26 yS;have hk30:oV (uP m.hp W a1.bP AS (a2.set x24.toNat (x25.set x3.1.toNat (u32.wrap x14.1)))) W A AS LS a1.bP a1.aX (a2.set x24.toNat (x25.set x3.1.toNat (u32.wrap x14.1))):=oV.upk hkF kp29;refine eV λK hK=>?_;simp only [go_sem,seval,gR,lR u0,lR u1,hkF.a,hn1_0,c23,f31,f32,d36,d41,d42,f43,f44,f28,(oV.setA hkF ex_a_26),hmP1];apply hK;simp only [];cases h;refine ⟨zc,?_⟩;simp only [go_sem,bB,bG,jQ,dR u0,pO hmP1,kp29]
  ·refine bL ?_;cases h;refine ⟨zc,?_⟩;simp only [go_sem,bB,bG,dR u0,pO hmP1,oV.same hkF,c23]
