import Derived.Test.YtnnomaboaiokeaaGreatDoorIH1
import Derived.Test.YtnnomaboaiokeaaGreatDoorIFacts
namespace Go.Proofs.YtnnomaboaiokeaaGreatDoor.Abs
open Go.RowKit Tryz
open IntKind (i64 u32 u64 u8)
set_option linter.all false
set_option maxRecDepth 10000
theorem RO {nm:cF} {x1 x2 x3 x4 x5:V} {a1:cF} {q:Pa} {m:M} {P0:Pa} (w0:m.blk P0=some [.lit (.string (bs a1))]) :
  SC prog 125 [.agg [.lit (.string (bs nm)),x1,x2,x3,x4,x5],.ptr P0 0] q m (λv m'=>v=.lit (.bool (decide (nm=a1)))/\m'=m):=by
 refine SC.apart w0 λu0=>?_;refine sY func125 call125 ntmps125 results125 ?_;refine aK (aQ λ_ z=>?_);simp only [go_sem,seval,cV u0,w0];apply z;simp only [seval,aC,bD,aU,aA,aY,aR];refine aK (aQ λ_ z=>?_);simp only [go_sem,seval,cV u0,w0];apply z;simp only [seval,aC,bD,aU,aA,aY,aR];refine cU ?_
 try simp only [aU,aR]
 refine ⟨by simp,?_⟩;simp only [go_sem,seval,aW,aV,aP,aZ,bE u0,cV u0,w0]
theorem ixf_vec (n:Nat) (a0:List aT) (a1:cF) (r:Int) (h:eQ n a0 a1=some r) (q:Pa) (m:M) (P0:Pa) (F fp S C:V) (x:aG) (w0:m.blk P0=some [.lit (.string (bs a1))]) (hk:cW F fp S C m.hp x) (hx:x.p_.bF=a0) :
  SC prog 124 [F,.fn (.func 125) [] [.ptr P0 0]] q m (λv m'=>v=.lit (.int .i64 r)/\m'=m):=by
 refine SC.apart w0 λu0=>?_;refine sY func124 call124 ntmps124 results124 ?_;unfold eQ at h;have hS:gR F 6 a0.length:=by rw [←hx];exact cW.funcsR hk
 refine aK (aQ λ_ z=>?_);simp only [go_sem,seval,bT u0,w0];apply z;simp only [seval,aC,bD,aU,aA,aY,aR];refine aK (aK (aQ λ_ z=>?_));simp only [go_sem,seval,bT u0,w0,hS.slen];apply z;simp only [seval,aC,bD,aU,aA,aY,aR];refine dM ?_;obtain ⟨y3,hy3,h⟩:=aI h;refine wZ (λc E' m'=>∃v2,cJ a0 a1 c v2=some y3/\E' 0=F/\E' 1=.fn (.func 125) [] [.ptr P0 0]/\E' 7=.lit (.int .i64 (a0.length:Int))/\E' 8=.lit (.int .i64 v2)/\m'.blk P0=some ([.lit (.string (bs a1))])/\m'.gl=m.gl/\m'.hp=m.hp/\m.back q m'=m) n ⟨(0:Int),hy3,?_⟩ ?_
 ·simp only [go_sem,seval,aW,aV,aP,aZ,bE u0,bT u0,w0]
 rintro i1 c4 E5 m6 ⟨v2,hy3,e7⟩ _
 rcases c4 with _ | c4
 ·cases hy3
 rw [cJ] at hy3;refine aK (aQ λ_ z=>?_);simp only [go_sem,seval,bT u0,e7];apply z;simp only [seval,aC,bD,aU,aA,aY,aR];refine aK (eT hy3 (λc8 hy3=>?_) (λc8 hy3=>?_))
 ·refine cN ?_
  try simp only [seval,aC,bD,aU,aA,aY,aR]
  refine aK (dM (aK (aQ λ_ z=>?_)));simp only [go_sem,seval,bT u0,c8,e7];apply z;simp only [seval,aC,bD,aU,aA,aY,aR];refine aK ?_;obtain ⟨x9,h14,hy3⟩:=aI hy3;obtain ⟨f11,f12,f13⟩:=bZ h14;obtain ⟨x10,h15,hy3⟩:=aI hy3;obtain ⟨vv,bv,HF,fc⟩:=cW.foc hk (i:=v2.toNat) (f:=x9) (by rw [hx];exact f13);obtain ⟨rs,s0,s1,s2,s3,s4,s5,s6⟩:=fc.rows;have hvs:=fc.vars.shC;have h6:(6<=rs.length+1+1+1+1+1+1)=True:=eq_true (by omega);have hix:∀ {C:V->Prop},sN prog (.sl 27) F (.lit (.int .i64 v2)) C=C (.pp (qP F) (v2.toNat*6)):=gR.ix (P:=prog) (k:=.i64) hS qQ f11 f12;refine aQ λ_ z=>?_;simp only [go_sem,seval,bT u0,c8,f11,f12,f13,e7,hix,fc.hF,s0,s6,h6,hvs.shr,hvs.wk1];have hd:x10=decide (x9.fM=a1):=(bU h15).symm;refine SC.by_ (RO (nm:=x9.fM) (P0:=P0) (a1:=a1) (by simp only [go_sem,seval,bT u0,c8,e7])) ?_;simp only [go_sem,seval,bT u0,c8,f11,f12,f13,e7];apply z;simp only [seval,aC,bD,aU,aA,aY,aR];rw [←hd];refine eT hy3 (λc16 hy3=>?_) (λc16 hy3=>?_)
  ·refine aK (aQ λ_ z=>?_);simp only [go_sem,seval,bT u0,c8,f11,f12,f13,c16,e7];apply z;simp only [seval,aC,bD,aU,aA,aY,aR];refine cU ?_
   try simp only [aU,aR]
   obtain rfl:=bU hy3;simp only [xet,xep] at h;obtain rfl:=bU h;refine ⟨by simp,?_⟩;simp only [go_sem,seval,aW,aV,aP,aZ,bE u0,bT u0,c8,f11,f12,f13,c16,e7]
  ·refine cN ?_
   try simp only [seval,aC,bD,aU,aA,aY,aR]
   refine aQ λ_ z=>?_;simp only [go_sem,seval,bT u0,c8,f11,f12,f13,c16,e7];apply z;simp only [seval,aC,bD,aU,aA,aY,aR];refine ⟨c4,MU _,(i64.wrap (v2+(1:Int))),hy3,?_⟩;simp only [go_sem,seval,aW,aV,aP,aZ,bE u0,bT u0,c8,f11,f12,f13,c16,e7]
 ·refine lV ?_
  try simp only [seval,bD,aY,aC,bD,aU,aA,aY,aR]
  obtain rfl:=bU hy3;simp only [xet,xep] at h;refine aK (aQ λ_ z=>?_);simp only [go_sem,seval,bT u0,c8,e7];apply z;simp only [seval,aC,bD,aU,aA,aY,aR];refine cU ?_
  try simp only [aU,aR]
  obtain rfl:=bU h;refine ⟨by simp,?_⟩;simp only [go_sem,seval,aW,aV,aP,aZ,bE u0,bT u0,c8,e7]
theorem yI (n:Nat) (a0:bH) (a1:cF) (r:Int × Bool) (h:pG n a0 a1=some r) (q:Pa) (m:M) (vs:List V) (F fp S C:V) (x:aG) (hy:vs.map V.weak1=[.agg [F],.lit (.string (bs a1))]/\cW F fp S C m.hp x/\x.p_=a0) :
  SC prog 88 vs q m (λv m'=>v=.tup [.lit (.int .i64 r.1),.lit (.bool r.2)]/\m'=m):=by
 obtain ⟨hv,hk,hx⟩:=hy;refine SC.weak ?_;rw [hv];have hS:=cW.funcsR hk;refine sY func88 call88 ntmps88 results88 ?_;unfold pG at h
 have hraw:(F=.nilv/\F.raw0=.list .self []) ∨ F.raw0=F:=by
  rcases hS with ⟨hF,_⟩ | ⟨id,hF⟩
  ·exact .inl ⟨hF,by rw [hF];rfl⟩
  ·exact .inr (by rw [hF];rfl)
 rcases hraw with ⟨hF,hraw⟩ | hraw
 refine aK (aQ λ_ z=>?_);simp only [go_sem,seval,hraw];apply z;simp only [seval,aC,bD,aU,aA,aY,aR];refine vW (id:=0::q) (off:=0) (cs:=[.list .self []]) (by simp only [go_sem,seval,List.cons.injEq,Jv]) rfl ?_;refine MJ (λm1=>m1.blk (0::q)=some [F]/\m1.blk (1::q)=some [.lit (.string (bs a1))]/\m1.hp=m.hp/\m1.gl=m.gl/\m.back q m1=m) (by simp only [go_sem,seval,hF,List.cons.injEq,Jv,aW,aZ]) ?_
 rotate_left
 refine aK (aQ λ_ z=>?_);simp only [go_sem,seval,hraw];apply z;simp only [seval,aC,bD,aU,aA,aY,aR];refine MJ (λm1=>m1.blk (0::q)=some [F]/\m1.blk (1::q)=some [.lit (.string (bs a1))]/\m1.hp=m.hp/\m1.gl=m.gl/\m.back q m1=m) (by simp only [go_sem,seval,List.cons.injEq,Jv,aW,aZ]) ?_
 all_goals
  rintro m1 ⟨e0,e1,e2,e3,e4⟩;refine aK ?_;obtain ⟨x3,h4,h⟩:=aI h;refine aQ λ_ z=>?_;simp only [go_sem,seval,e0,hS.ld];refine SC.by_ (ixf_vec n a0.bF a1 _ h4 _ _ (1::q) F fp S C x e1 (by rw [e2];exact hk) (by rw [hx])) ?_;simp only [go_sem,seval];apply z;simp only [seval,aC,bD,aU,aA,aY,aR];refine aK (aQ λ_ z=>?_);simp only [go_sem,seval];apply z;simp only [seval,aC,bD,aU,aA,aY,aR];refine cU ?_
  try simp only [aU,aR]
  obtain rfl:=bU h;refine ⟨by simp,?_⟩;simp only [go_sem,seval,e4]
theorem FU (n:Nat) (a0:aT) (r:Int) (h:sV n a0=some r) (q:Pa) (m:M) (vs:List V) (vv bv:V) (hy:vs.map V.weak1=[.agg (tS a0 vv bv)]/\eD m.hp vv 3 (a0.aX.map aL.C)) :
  SC prog 27 vs q m (λv m'=>v=.lit (.int .i64 r)/\m'=m):=by
 obtain ⟨hv,hR⟩:=hy;refine SC.weak ?_;rw [hv];have hS:=hR.shC;refine sY func27 call27 ntmps27 results27 ?_;unfold sV at h;obtain ⟨⟨f2,f3⟩,h⟩:=cH h;have hl:(a0.aX.take a0.bC.toNat).length=a0.bC.toNat:=by rw [Ji];omega
 have hRc:=eD.cutC hR f3;have hSc:gR (Au vv a0.bC.toNat) 3 (a0.aX.take a0.bC.toNat).length:=hRc.shC;have hsl:∀ {C:V->Prop},OT prog (.sl 47) vv none (some (.lit (.int .i64 a0.bC))) C=C (Au vv a0.bC.toNat):=gR.slHi (P:=prog) (k:=.i64) hS uJ f2 f3
 have hraw:(vv=.nilv/\vv.raw0=.list .self []) ∨ vv.raw0=vv:=by
  rcases hS with ⟨hF,_⟩ | ⟨id,hF⟩
  ·exact .inl ⟨hF,by rw [hF];rfl⟩
  ·exact .inr (by rw [hF];rfl)
 rcases hraw with ⟨hF,hraw⟩ | hraw
 refine aK (aQ λ_ z=>?_);simp only [go_sem,seval,hraw];apply z;simp only [seval,aC,bD,aU,aA,aY,aR];refine vW (id:=0::q) (off:=4) (cs:=[.lit (.string (bs a0.fM)),.lit (.bool a0.dF),.lit (.int .i64 a0.bX),.lit (.int .i64 a0.bC),.list .self [],bv.raw0]) (by simp only [go_sem,seval]) rfl ?_;refine MJ (λm1=>m1.blk (0::q)=some [.lit (.string (bs a0.fM)),.lit (.bool a0.dF),.lit (.int .i64 a0.bX),.lit (.int .i64 a0.bC),vv,bv.raw0]/\m1.hp=m.hp/\m1.gl=m.gl/\m.back q m1=m) (by simp only [go_sem,seval,hF,aW,aZ]) ?_
 rotate_left
 refine aK (aQ λ_ z=>?_);simp only [go_sem,seval,hraw];apply z;simp only [seval,aC,bD,aU,aA,aY,aR];refine MJ (λm1=>m1.blk (0::q)=some [.lit (.string (bs a0.fM)),.lit (.bool a0.dF),.lit (.int .i64 a0.bX),.lit (.int .i64 a0.bC),vv,bv.raw0]/\m1.hp=m.hp/\m1.gl=m.gl/\m.back q m1=m) (by simp only [go_sem,seval,aW,aZ]) ?_
 all_goals
  rintro m1 ⟨e0,e2,e3,e4⟩;refine aK (aQ λ_ z=>?_);simp only [go_sem,seval];apply z;simp only [seval,aC,bD,aU,aA,aY,aR];refine aK (aK (aQ λ_ z=>?_));simp only [go_sem,seval,f2,f3,e0,hS.ld,hsl,hSc.slen];apply z;simp only [seval,aC,bD,aU,aA,aY,aR];refine dM ?_;obtain ⟨y7,hy7,h⟩:=aI h;refine wZ (λc E' m'=>∃v5 v6,oO a0 c v5 v6=some y7/\E' 3=.lit (.int .i64 v5)/\E' 10=Au vv a0.bC.toNat/\E' 11=.lit (.int .i64 ((a0.aX.take a0.bC.toNat).length:Int))/\E' 12=.lit (.int .i64 v6)/\m'.hp=m.hp/\m'.gl=m.gl/\m.back q m'=m) n ⟨(0:Int),(0:Int),hy7,?_⟩ ?_
  ·simp only [go_sem,seval,aW,aV,aP,aZ,f2,f3,e2,e3,e4]
  rintro i4 c8 E9 m10 ⟨v5,v6,hy7,e11⟩ _
  rcases c8 with _ | c8
  ·cases hy7
  rw [oO] at hy7;refine aK (aQ λ_ z=>?_);simp only [go_sem,seval,f2,f3,e11];apply z;simp only [seval,aC,bD,aU,aA,aY,aR];refine aK (eT hy7 (λc12 hy7=>?_) (λc12 hy7=>?_))
  ·refine cN ?_
   try simp only [seval,aC,bD,aU,aA,aY,aR]
   refine aK ?_;obtain ⟨y13,hy13,hy7⟩:=aI hy7;refine yL 17 (λE' m'=>E' 3=.lit (.int .i64 y13)/\E' 10=Au vv a0.bC.toNat/\E' 11=.lit (.int .i64 ((a0.aX.take a0.bC.toNat).length:Int))/\E' 12=.lit (.int .i64 v6)/\m'.hp=m.hp/\m'.gl=m.gl/\m.back q m'=m) ?_ ?_
   ·refine dM (aK ?_);obtain ⟨x14,h19,hy13⟩:=aI hy13;obtain ⟨f16,f17,f18⟩:=bZ h19;obtain ⟨HV,rest,s0,s1,s2,s3⟩:=eD.readVar hRc f18;have h3:(3<=rest.length+1+1+1)=True:=eq_true (by omega);have hix:∀ {C:V->Prop},sN prog (.sl 47) (Au vv a0.bC.toNat) (.lit (.int .i64 v6)) C=C (.pp (qP (Au vv a0.bC.toNat)) (v6.toNat*3)):=gR.ix (P:=prog) (k:=.i64) hSc uJ f16 f17;refine aQ λ_ z=>?_;simp only [go_sem,seval,f2,f3,c12,f16,f17,f18,e11,hix,s0,s1,h3];apply z;simp only [seval,aC,bD,aU,aA,aY,aR];refine aK (aK (aQ λ_ z=>?_));simp only [go_sem,seval,f2,f3,c12,f16,f17,f18,e11];apply z;simp only [seval,aC,bD,aU,aA,aY,aR];refine eT hy13 (λc20 hy13=>?_) (λc20 hy13=>?_)
    ·refine aQ λ_ z=>?_;simp only [go_sem,seval,f2,f3,c12,f16,f17,f18,c20,(by decide:(2:Int) ≠ (0:Int)),e11];apply z;simp only [seval,aC,bD,aU,aA,aY,aR];refine aQ λ_ z=>?_;simp only [go_sem,seval,f2,f3,c12,f16,f17,f18,c20,(by decide:(2:Int) ≠ (0:Int)),e11];apply z;simp only [seval,aC,bD,aU,aA,aY,aR];obtain rfl:=bU hy13;refine ⟨by decide,?_⟩;simp only [go_sem,seval,aW,aV,aP,aZ,f2,f3,c12,f16,f17,f18,c20,(by decide:(2:Int) ≠ (0:Int)),e11]
    ·refine cN ?_
     try simp only [seval,aC,bD,aU,aA,aY,aR]
     refine aQ λ_ z=>?_;simp only [go_sem,seval,f2,f3,c12,f16,f17,f18,c20,e11];apply z;simp only [seval,aC,bD,aU,aA,aY,aR];obtain rfl:=bU hy13;refine ⟨by decide,?_⟩;simp only [go_sem,seval,aW,aV,aP,aZ,f2,f3,c12,f16,f17,f18,c20,e11]
   ·intro E21 m22 e23 _;simp only [seval,aC,bD,aU,aA,aY,aR];refine aQ λ_ z=>?_;simp only [go_sem,seval,f2,f3,c12,e23];apply z;simp only [seval,aC,bD,aU,aA,aY,aR];refine ⟨c8,MU _,y13,(i64.wrap (v6+(1:Int))),hy7,?_⟩;simp only [go_sem,seval,aW,aV,aP,aZ,f2,f3,c12,e23]
  ·refine lV ?_
   try simp only [seval,bD,aY,aC,bD,aU,aA,aY,aR]
   obtain rfl:=bU hy7;refine aK (aQ λ_ z=>?_);simp only [go_sem,seval,f2,f3,c12,e11];apply z;simp only [seval,aC,bD,aU,aA,aY,aR];refine cU ?_
   try simp only [aU,aR]
   obtain rfl:=bU h;refine ⟨by simp,?_⟩;simp only [go_sem,seval,aW,aV,aP,aZ,f2,f3,c12,e11]
