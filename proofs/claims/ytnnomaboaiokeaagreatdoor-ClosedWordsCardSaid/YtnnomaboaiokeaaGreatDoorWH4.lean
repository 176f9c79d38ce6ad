import Derived.Test.YtnnomaboaiokeaaGreatDoorWH1
import Derived.Test.YtnnomaboaiokeaaGreatDoorWFacts
namespace Go.Proofs.YtnnomaboaiokeaaGreatDoor.Abs
open Go.RowKit Tryz
open IntKind (i64 u32 u64 u8)
set_option linter.all false
set_option maxRecDepth 10000
theorem Sl {nm:cF} {x1 x2 x3 x4 x5:V} {a1:cF} {q:Pa} {m:M} {P0:Pa} (w0:m.blk P0=some [.lit (.string (bs a1))]) :
  SC prog 125 [.agg [.lit (.string (bs nm)),x1,x2,x3,x4,x5],.ptr P0 0] q m (λv m'=>v=.lit (.bool (decide (nm=a1)))/\m'=m):=by
 refine SC.apart w0 λu0=>?_;refine tL func125 call125 ntmps125 results125 ?_;refine aL (aQ λ_ z=>?_);simp only [go_sem,seval,cW u0,w0];apply z;simp only [seval,aC,bD,aU,aA,aY,aR];refine aL (aQ λ_ z=>?_);simp only [go_sem,seval,cW u0,w0];apply z;simp only [seval,aC,bD,aU,aA,aY,aR];refine cV ?_
 try simp only [aU,aR]
 refine ⟨by simp,?_⟩;simp only [go_sem,seval,aX,aV,aP,aZ,bE u0,cW u0,w0]
theorem ixf_vec (n:Nat) (a0:List aT) (a1:cF) (r:Int) (h:fA n a0 a1=some r) (q:Pa) (m:M) (P0:Pa) (F fp S C:V) (x:aG) (w0:m.blk P0=some [.lit (.string (bs a1))]) (hk:cX F fp S C m.hp x) (hx:x.p_.bF=a0) :
  SC prog 124 [F,.fn (.func 125) [] [.ptr P0 0]] q m (λv m'=>v=.lit (.int .i64 r)/\m'=m):=by
 refine SC.apart w0 λu0=>?_;refine tL func124 call124 ntmps124 results124 ?_;unfold fA at h;have hS:iA F 6 a0.length:=by rw [←hx];exact cX.funcsR hk
 refine aL (aQ λ_ z=>?_);simp only [go_sem,seval,bT u0,w0];apply z;simp only [seval,aC,bD,aU,aA,aY,aR];refine aL (aL (aQ λ_ z=>?_));simp only [go_sem,seval,bT u0,w0,hS.slen];apply z;simp only [seval,aC,bD,aU,aA,aY,aR];refine dS ?_;obtain ⟨y3,hy3,h⟩:=aI h;refine xP (λc E' m'=>∃v2,cK a0 a1 c v2=some y3/\E' 0=F/\E' 1=.fn (.func 125) [] [.ptr P0 0]/\E' 7=.lit (.int .i64 (a0.length:Int))/\E' 8=.lit (.int .i64 v2)/\m'.blk P0=some ([.lit (.string (bs a1))])/\m'.gl=m.gl/\m'.hp=m.hp/\m.back q m'=m) n ⟨(0:Int),hy3,?_⟩ ?_
 ·simp only [go_sem,seval,aX,aV,aP,aZ,bE u0,bT u0,w0]
 rintro i1 c4 E5 m6 ⟨v2,hy3,e7⟩ _
 rcases c4 with _ | c4
 ·cases hy3
 rw [cK] at hy3;refine aL (aQ λ_ z=>?_);simp only [go_sem,seval,bT u0,e7];apply z;simp only [seval,aC,bD,aU,aA,aY,aR];refine aL (fD hy3 (λc8 hy3=>?_) (λc8 hy3=>?_))
 ·refine cO ?_
  try simp only [seval,aC,bD,aU,aA,aY,aR]
  refine aL (dS (aL (aQ λ_ z=>?_)));simp only [go_sem,seval,bT u0,c8,e7];apply z;simp only [seval,aC,bD,aU,aA,aY,aR];refine aL ?_;obtain ⟨x9,h14,hy3⟩:=aI hy3;obtain ⟨f11,f12,f13⟩:=bZ h14;obtain ⟨x10,h15,hy3⟩:=aI hy3;obtain ⟨vv,bv,HF,fc⟩:=cX.foc hk (i:=v2.toNat) (f:=x9) (by rw [hx];exact f13);obtain ⟨rs,s0,s1,s2,s3,s4,s5,s6⟩:=fc.rows;have hvs:=fc.vars.shC;have h6:(6<=rs.length+1+1+1+1+1+1)=True:=eq_true (by omega);have hix:∀ {C:V->Prop},tB prog (.sl 27) F (.lit (.int .i64 v2)) C=C (.pp (qW F) (v2.toNat*6)):=iA.ix (P:=prog) (k:=.i64) hS qX f11 f12;refine aQ λ_ z=>?_;simp only [go_sem,seval,bT u0,c8,f11,f12,f13,e7,hix,fc.hF,s0,s6,h6,hvs.shr,hvs.wk1];have hd:x10=decide (x9.fX=a1):=(bU h15).symm;refine SC.by_ (Sl (nm:=x9.fX) (P0:=P0) (a1:=a1) (by simp only [go_sem,seval,bT u0,c8,e7])) ?_;simp only [go_sem,seval,bT u0,c8,f11,f12,f13,e7];apply z;simp only [seval,aC,bD,aU,aA,aY,aR];rw [←hd];refine fD hy3 (λc16 hy3=>?_) (λc16 hy3=>?_)
  ·refine aL (aQ λ_ z=>?_);simp only [go_sem,seval,bT u0,c8,f11,f12,f13,c16,e7];apply z;simp only [seval,aC,bD,aU,aA,aY,aR];refine cV ?_
   try simp only [aU,aR]
   obtain rfl:=bU hy3;simp only [xes,xen] at h;obtain rfl:=bU h;refine ⟨by simp,?_⟩;simp only [go_sem,seval,aX,aV,aP,aZ,bE u0,bT u0,c8,f11,f12,f13,c16,e7]
  ·refine cO ?_
   try simp only [seval,aC,bD,aU,aA,aY,aR]
   refine aQ λ_ z=>?_;simp only [go_sem,seval,bT u0,c8,f11,f12,f13,c16,e7];apply z;simp only [seval,aC,bD,aU,aA,aY,aR];refine ⟨c4,No _,(i64.wrap (v2+(1:Int))),hy3,?_⟩;simp only [go_sem,seval,aX,aV,aP,aZ,bE u0,bT u0,c8,f11,f12,f13,c16,e7]
 ·refine lZ ?_
  try simp only [seval,bD,aY,aC,bD,aU,aA,aY,aR]
  obtain rfl:=bU hy3;simp only [xes,xen] at h;refine aL (aQ λ_ z=>?_);simp only [go_sem,seval,bT u0,c8,e7];apply z;simp only [seval,aC,bD,aU,aA,aY,aR];refine cV ?_
  try simp only [aU,aR]
  obtain rfl:=bU h;refine ⟨by simp,?_⟩;simp only [go_sem,seval,aX,aV,aP,aZ,bE u0,bT u0,c8,e7]
theorem yZ (n:Nat) (a0:bG) (a1:cF) (r:Int × Bool) (h:pM n a0 a1=some r) (q:Pa) (m:M) (vs:List V) (F fp S C:V) (x:aG) (hy:vs.map V.weak1=[.agg [F],.lit (.string (bs a1))]/\cX F fp S C m.hp x/\x.p_=a0) :
  SC prog 88 vs q m (λv m'=>v=.tup [.lit (.int .i64 r.1),.lit (.bool r.2)]/\m'=m):=by
 obtain ⟨hv,hk,hx⟩:=hy;refine SC.weak ?_;rw [hv];have hS:=cX.funcsR hk;refine tL func88 call88 ntmps88 results88 ?_;unfold pM at h
 have hraw:(F=.nilv/\F.raw0=.list .self []) ∨ F.raw0=F:=by
  rcases hS with ⟨hF,_⟩ | ⟨id,hF⟩
  ·exact .inl ⟨hF,by rw [hF];rfl⟩
  ·exact .inr (by rw [hF];rfl)
 rcases hraw with ⟨hF,hraw⟩ | hraw
 refine aL (aQ λ_ z=>?_);simp only [go_sem,seval,hraw];apply z;simp only [seval,aC,bD,aU,aA,aY,aR];refine wO (id:=0::q) (off:=0) (cs:=[.list .self []]) (by simp only [go_sem,seval,List.cons.injEq,JT]) rfl ?_;refine Nc (λm1=>m1.blk (0::q)=some [F]/\m1.blk (1::q)=some [.lit (.string (bs a1))]/\m1.hp=m.hp/\m1.gl=m.gl/\m.back q m1=m) (by simp only [go_sem,seval,hF,List.cons.injEq,JT,aX,aZ]) ?_
 rotate_left
 refine aL (aQ λ_ z=>?_);simp only [go_sem,seval,hraw];apply z;simp only [seval,aC,bD,aU,aA,aY,aR];refine Nc (λm1=>m1.blk (0::q)=some [F]/\m1.blk (1::q)=some [.lit (.string (bs a1))]/\m1.hp=m.hp/\m1.gl=m.gl/\m.back q m1=m) (by simp only [go_sem,seval,List.cons.injEq,JT,aX,aZ]) ?_
 all_goals
  rintro m1 ⟨e0,e1,e2,e3,e4⟩;refine aL ?_;obtain ⟨x3,h4,h⟩:=aI h;refine aQ λ_ z=>?_;simp only [go_sem,seval,e0,hS.ld];refine SC.by_ (ixf_vec n a0.bF a1 _ h4 _ _ (1::q) F fp S C x e1 (by rw [e2];exact hk) (by rw [hx])) ?_;simp only [go_sem,seval];apply z;simp only [seval,aC,bD,aU,aA,aY,aR];refine aL (aQ λ_ z=>?_);simp only [go_sem,seval];apply z;simp only [seval,aC,bD,aU,aA,aY,aR];refine cV ?_
  try simp only [aU,aR]
  obtain rfl:=bU h;refine ⟨by simp,?_⟩;simp only [go_sem,seval,e4]
theorem Gn (n:Nat) (a0:aT) (r:Int) (h:tJ n a0=some r) (q:Pa) (m:M) (vs:List V) (vv bv:V) (hy:vs.map V.weak1=[.agg (uJ a0 vv bv)]/\eM m.hp vv 3 (a0.aW.map aM.C)) :
  SC prog 27 vs q m (λv m'=>v=.lit (.int .i64 r)/\m'=m):=by
 obtain ⟨hv,hR⟩:=hy;refine SC.weak ?_;rw [hv];have hS:=hR.shC;refine tL func27 call27 ntmps27 results27 ?_;unfold tJ at h;obtain ⟨⟨f2,f3⟩,h⟩:=cH h;have hl:(a0.aW.take a0.bB.toNat).length=a0.bB.toNat:=by rw [JE];omega
 have hRc:=eM.cutC hR f3;have hSc:iA (AJ vv a0.bB.toNat) 3 (a0.aW.take a0.bB.toNat).length:=hRc.shC;have hsl:∀ {C:V->Prop},Ps prog (.sl 47) vv none (some (.lit (.int .i64 a0.bB))) C=C (AJ vv a0.bB.toNat):=iA.slHi (P:=prog) (k:=.i64) hS vC f2 f3
 have hraw:(vv=.nilv/\vv.raw0=.list .self []) ∨ vv.raw0=vv:=by
  rcases hS with ⟨hF,_⟩ | ⟨id,hF⟩
  ·exact .inl ⟨hF,by rw [hF];rfl⟩
  ·exact .inr (by rw [hF];rfl)
 rcases hraw with ⟨hF,hraw⟩ | hraw
 refine aL (aQ λ_ z=>?_);simp only [go_sem,seval,hraw];apply z;simp only [seval,aC,bD,aU,aA,aY,aR];refine wO (id:=0::q) (off:=4) (cs:=[.lit (.string (bs a0.fX)),.lit (.bool a0.dK),.lit (.int .i64 a0.bX),.lit (.int .i64 a0.bB),.list .self [],bv.raw0]) (by simp only [go_sem,seval]) rfl ?_;refine Nc (λm1=>m1.blk (0::q)=some [.lit (.string (bs a0.fX)),.lit (.bool a0.dK),.lit (.int .i64 a0.bX),.lit (.int .i64 a0.bB),vv,bv.raw0]/\m1.hp=m.hp/\m1.gl=m.gl/\m.back q m1=m) (by simp only [go_sem,seval,hF,aX,aZ]) ?_
 rotate_left
 refine aL (aQ λ_ z=>?_);simp only [go_sem,seval,hraw];apply z;simp only [seval,aC,bD,aU,aA,aY,aR];refine Nc (λm1=>m1.blk (0::q)=some [.lit (.string (bs a0.fX)),.lit (.bool a0.dK),.lit (.int .i64 a0.bX),.lit (.int .i64 a0.bB),vv,bv.raw0]/\m1.hp=m.hp/\m1.gl=m.gl/\m.back q m1=m) (by simp only [go_sem,seval,aX,aZ]) ?_
 all_goals
  rintro m1 ⟨e0,e2,e3,e4⟩;refine aL (aQ λ_ z=>?_);simp only [go_sem,seval];apply z;simp only [seval,aC,bD,aU,aA,aY,aR];refine aL (aL (aQ λ_ z=>?_));simp only [go_sem,seval,f2,f3,e0,hS.ld,hsl,hSc.slen];apply z;simp only [seval,aC,bD,aU,aA,aY,aR];refine dS ?_;obtain ⟨y7,hy7,h⟩:=aI h;refine xP (λc E' m'=>∃v5 v6,oS a0 c v5 v6=some y7/\E' 3=.lit (.int .i64 v5)/\E' 10=AJ vv a0.bB.toNat/\E' 11=.lit (.int .i64 ((a0.aW.take a0.bB.toNat).length:Int))/\E' 12=.lit (.int .i64 v6)/\m'.hp=m.hp/\m'.gl=m.gl/\m.back q m'=m) n ⟨(0:Int),(0:Int),hy7,?_⟩ ?_
  ·simp only [go_sem,seval,aX,aV,aP,aZ,f2,f3,e2,e3,e4]
  rintro i4 c8 E9 m10 ⟨v5,v6,hy7,e11⟩ _
  rcases c8 with _ | c8
  ·cases hy7
  rw [oS] at hy7;refine aL (aQ λ_ z=>?_);simp only [go_sem,seval,f2,f3,e11];apply z;simp only [seval,aC,bD,aU,aA,aY,aR];refine aL (fD hy7 (λc12 hy7=>?_) (λc12 hy7=>?_))
  ·refine cO ?_
   try simp only [seval,aC,bD,aU,aA,aY,aR]
   refine aL ?_;obtain ⟨y13,hy13,hy7⟩:=aI hy7;refine zB 17 (λE' m'=>E' 3=.lit (.int .i64 y13)/\E' 10=AJ vv a0.bB.toNat/\E' 11=.lit (.int .i64 ((a0.aW.take a0.bB.toNat).length:Int))/\E' 12=.lit (.int .i64 v6)/\m'.hp=m.hp/\m'.gl=m.gl/\m.back q m'=m) ?_ ?_
   ·refine dS (aL ?_);obtain ⟨x14,h19,hy13⟩:=aI hy13;obtain ⟨f16,f17,f18⟩:=bZ h19;obtain ⟨HV,rest,s0,s1,s2,s3⟩:=eM.readVar hRc f18;have h3:(3<=rest.length+1+1+1)=True:=eq_true (by omega);have hix:∀ {C:V->Prop},tB prog (.sl 47) (AJ vv a0.bB.toNat) (.lit (.int .i64 v6)) C=C (.pp (qW (AJ vv a0.bB.toNat)) (v6.toNat*3)):=iA.ix (P:=prog) (k:=.i64) hSc vC f16 f17;refine aQ λ_ z=>?_;simp only [go_sem,seval,f2,f3,c12,f16,f17,f18,e11,hix,s0,s1,h3];apply z;simp only [seval,aC,bD,aU,aA,aY,aR];refine aL (aL (aQ λ_ z=>?_));simp only [go_sem,seval,f2,f3,c12,f16,f17,f18,e11];apply z;simp only [seval,aC,bD,aU,aA,aY,aR];refine fD hy13 (λc20 hy13=>?_) (λc20 hy13=>?_)
    ·refine aQ λ_ z=>?_;simp only [go_sem,seval,f2,f3,c12,f16,f17,f18,c20,(by decide:(2:Int) ≠ (0:Int)),e11];apply z;simp only [seval,aC,bD,aU,aA,aY,aR];refine aQ λ_ z=>?_;simp only [go_sem,seval,f2,f3,c12,f16,f17,f18,c20,(by decide:(2:Int) ≠ (0:Int)),e11];apply z;simp only [seval,aC,bD,aU,aA,aY,aR];obtain rfl:=bU hy13;refine ⟨by decide,?_⟩;simp only [go_sem,seval,aX,aV,aP,aZ,f2,f3,c12,f16,f17,f18,c20,(by decide:(2:Int) ≠ (0:Int)),e11]
    ·refine cO ?_
     try simp only [seval,aC,bD,aU,aA,aY,aR]
     refine aQ λ_ z=>?_;simp only [go_sem,seval,f2,f3,c12,f16,f17,f18,c20,e11];apply z;simp only [seval,aC,bD,aU,aA,aY,aR];obtain rfl:=bU hy13;refine ⟨by decide,?_⟩;simp only [go_sem,seval,aX,aV,aP,aZ,f2,f3,c12,f16,f17,f18,c20,e11]
   ·intro E21 m22 e23 _;simp only [seval,aC,bD,aU,aA,aY,aR];refine aQ λ_ z=>?_;simp only [go_sem,seval,f2,f3,c12,e23];apply z;simp only [seval,aC,bD,aU,aA,aY,aR];refine ⟨c8,No _,y13,(i64.wrap (v6+(1:Int))),hy7,?_⟩;simp only [go_sem,seval,aX,aV,aP,aZ,f2,f3,c12,e23]
  ·refine lZ ?_
   try simp only [seval,bD,aY,aC,bD,aU,aA,aY,aR]
   obtain rfl:=bU hy7;refine aL (aQ λ_ z=>?_);simp only [go_sem,seval,f2,f3,c12,e11];apply z;simp only [seval,aC,bD,aU,aA,aY,aR];refine cV ?_
   try simp only [aU,aR]
   obtain rfl:=bU h;refine ⟨by simp,?_⟩;simp only [go_sem,seval,aX,aV,aP,aZ,f2,f3,c12,e11]
