import Derived.Test.YtljbbjpbefjpiaaGreatDoorPH1
import Derived.Test.YtljbbjpbefjpiaaGreatDoorPFacts
namespace Go.Proofs.YtljbbjpbefjpiaaGreatDoor.Abs
open Go.RowKit Tryz
open IntKind (i64 u32 u64 u8)
set_option linter.all false
set_option maxRecDepth 10000
theorem Pi {nm:cB} {x1 x2 x3 x4 x5:V} {a1:cB} {q:Pa} {m:M} {P0:Pa} (w0:m.blk P0=some [.lit (.string (bs a1))]) :
  SC prog 16 [.agg [.lit (.string (bs nm)),x1,x2,x3,x4,x5],.ptr P0 0] q m (λv m'=>v=.lit (.bool (decide (nm=a1)))/\m'=m):=by
 refine SC.apart w0 λu0=>?_;refine vC func16 call16 ntmps16 results16 ?_;refine aN (aR λ_ z=>?_);simp only [go_sem,seval,eS u0,w0];apply z;simp only [seval,aE,aW,aT,aC,aU,aP];refine aN (aR λ_ z=>?_);simp only [go_sem,seval,eS u0,w0];apply z;simp only [seval,aE,aW,aT,aC,aU,aP];refine gB ?_
 try simp only [aT,aP]
 refine ⟨by simp,?_⟩;simp only [go_sem,seval,bJ,bG,aV,bC,bH u0,eS u0,w0]
theorem ixf_vec (n:Nat) (a0:List aQ) (a1:cB) (r:Int) (h:cC n a0 a1=some r) (q:Pa) (m:M) (P0:Pa) (F fp S C:V) (x:aD) (w0:m.blk P0=some [.lit (.string (bs a1))]) (hk:dL F fp S C m.hp x) (hx:x.p_.aS=a0) :
  SC prog 15 [F,.fn (.func 16) [] [.ptr P0 0]] q m (λv m'=>v=.lit (.int .i64 r)/\m'=m):=by
 refine SC.apart w0 λu0=>?_;refine vC func15 call15 ntmps15 results15 ?_;unfold cC at h;have hS:jG F 6 a0.length:=by rw [←hx];exact dL.funcsR hk
 refine aN (aR λ_ z=>?_);simp only [go_sem,seval,bZ u0,w0];apply z;simp only [seval,aE,aW,aT,aC,aU,aP];refine aN (aN (aR λ_ z=>?_));simp only [go_sem,seval,bZ u0,w0,hS.slen];apply z;simp only [seval,aE,aW,aT,aC,aU,aP];refine gN ?_;obtain ⟨y3,hy3,h⟩:=aH h;refine yE (λc E' m'=>∃v2,bK a0 a1 c v2=some y3/\E' 0=F/\E' 1=.fn (.func 16) [] [.ptr P0 0]/\E' 7=.lit (.int .i64 (a0.length:Int))/\E' 8=.lit (.int .i64 v2)/\m'.blk P0=some ([.lit (.string (bs a1))])/\m'.gl=m.gl/\m'.hp=m.hp/\m.back q m'=m) n ⟨(0:Int),hy3,?_⟩ ?_
 ·simp only [go_sem,seval,bJ,bG,aV,bC,bH u0,bZ u0,w0]
 rintro i1 c4 E5 m6 ⟨v2,hy3,e7⟩ _
 rcases c4 with _ | c4
 ·cases hy3
 rw [bK] at hy3;refine aN (aR λ_ z=>?_);simp only [go_sem,seval,bZ u0,e7];apply z;simp only [seval,aE,aW,aT,aC,aU,aP];refine aN (lL hy3 (λc8 hy3=>?_) (λc8 hy3=>?_))
 ·refine fO ?_
  try simp only [seval,aE,aW,aT,aC,aU,aP]
  refine aN (gN (aN (aR λ_ z=>?_)));simp only [go_sem,seval,bZ u0,c8,e7];apply z;simp only [seval,aE,aW,aT,aC,aU,aP];refine aN ?_;obtain ⟨x9,h14,hy3⟩:=aH hy3;obtain ⟨f11,f12,f13⟩:=cO h14;obtain ⟨x10,h15,hy3⟩:=aH hy3;obtain ⟨vv,bv,HF,fc⟩:=dL.foc hk (i:=v2.toNat) (f:=x9) (by rw [hx];exact f13);obtain ⟨rs,s0,s1,s2,s3,s4,s5,s6⟩:=fc.rows;have hvs:=fc.vars.shC;have h6:(6<=rs.length+1+1+1+1+1+1)=True:=eq_true (by omega);have hix:∀ {C:V->Prop},rJ prog (.sl 42) F (.lit (.int .i64 v2)) C=C (.pp (pQ F) (v2.toNat*6)):=jG.ix (P:=prog) (k:=.i64) hS pR f11 f12;refine aR λ_ z=>?_;simp only [go_sem,seval,bZ u0,c8,f11,f12,f13,e7,hix,fc.hF,s0,s6,h6,hvs.shr,hvs.wk1];have hd:x10=decide (x9.iS=a1):=(bX h15).symm;refine SC.by_ (Pi (nm:=x9.iS) (P0:=P0) (a1:=a1) (by simp only [go_sem,seval,bZ u0,c8,e7])) ?_;simp only [go_sem,seval,bZ u0,c8,f11,f12,f13,e7];apply z;simp only [seval,aE,aW,aT,aC,aU,aP];rw [←hd];refine lL hy3 (λc16 hy3=>?_) (λc16 hy3=>?_)
  ·refine aN (aR λ_ z=>?_);simp only [go_sem,seval,bZ u0,c8,f11,f12,f13,c16,e7];apply z;simp only [seval,aE,aW,aT,aC,aU,aP];refine gB ?_
   try simp only [aT,aP]
   obtain rfl:=bX hy3;simp only [Qj,xeg] at h;obtain rfl:=bX h;refine ⟨by simp,?_⟩;simp only [go_sem,seval,bJ,bG,aV,bC,bH u0,bZ u0,c8,f11,f12,f13,c16,e7]
  ·refine fO ?_
   try simp only [seval,aE,aW,aT,aC,aU,aP]
   refine aR λ_ z=>?_;simp only [go_sem,seval,bZ u0,c8,f11,f12,f13,c16,e7];apply z;simp only [seval,aE,aW,aT,aC,aU,aP];refine ⟨c4,MV _,(i64.wrap (v2+(1:Int))),hy3,?_⟩;simp only [go_sem,seval,bJ,bG,aV,bC,bH u0,bZ u0,c8,f11,f12,f13,c16,e7]
 ·refine oK ?_
  try simp only [seval,aW,aU,aE,aW,aT,aC,aU,aP]
  obtain rfl:=bX hy3;simp only [Qj,xeg] at h;refine aN (aR λ_ z=>?_);simp only [go_sem,seval,bZ u0,c8,e7];apply z;simp only [seval,aE,aW,aT,aC,aU,aP];refine gB ?_
  try simp only [aT,aP]
  obtain rfl:=bX h;refine ⟨by simp,?_⟩;simp only [go_sem,seval,bJ,bG,aV,bC,bH u0,bZ u0,c8,e7]
theorem vS (n:Nat) (a0:cY) (a1:cB) (r:Int × Bool) (h:dS n a0 a1=some r) (q:Pa) (m:M) (vs:List V) (F fp S C:V) (x:aD) (hy:vs.map V.weak1=[.agg [F],.lit (.string (bs a1))]/\dL F fp S C m.hp x/\x.p_=a0) :
  SC prog 7 vs q m (λv m'=>v=.tup [.lit (.int .i64 r.1),.lit (.bool r.2)]/\m'=m):=by
 obtain ⟨hv,hk,hx⟩:=hy;refine SC.weak ?_;rw [hv];have hS:=dL.funcsR hk;refine vC func7 call7 ntmps7 results7 ?_;unfold dS at h
 have hraw:(F=.nilv/\F.raw0=.list .self []) ∨ F.raw0=F:=by
  rcases hS with ⟨hF,_⟩ | ⟨id,hF⟩
  ·exact .inl ⟨hF,by rw [hF];rfl⟩
  ·exact .inr (by rw [hF];rfl)
 rcases hraw with ⟨hF,hraw⟩ | hraw
 refine aN (aR λ_ z=>?_);simp only [go_sem,seval,hraw];apply z;simp only [seval,aE,aW,aT,aC,aU,aP];refine uG (id:=0::q) (off:=0) (cs:=[.list .self []]) (by simp only [go_sem,seval,List.cons.injEq,Hb]) rfl ?_;refine JZ (λm1=>m1.blk (0::q)=some [F]/\m1.blk (1::q)=some [.lit (.string (bs a1))]/\m1.hp=m.hp/\m1.gl=m.gl/\m.back q m1=m) (by simp only [go_sem,seval,hF,List.cons.injEq,Hb,bJ,bC]) ?_
 rotate_left
 refine aN (aR λ_ z=>?_);simp only [go_sem,seval,hraw];apply z;simp only [seval,aE,aW,aT,aC,aU,aP];refine JZ (λm1=>m1.blk (0::q)=some [F]/\m1.blk (1::q)=some [.lit (.string (bs a1))]/\m1.hp=m.hp/\m1.gl=m.gl/\m.back q m1=m) (by simp only [go_sem,seval,List.cons.injEq,Hb,bJ,bC]) ?_
 all_goals
  rintro m1 ⟨e0,e1,e2,e3,e4⟩;refine aN ?_;obtain ⟨x3,h4,h⟩:=aH h;refine aR λ_ z=>?_;simp only [go_sem,seval,e0,hS.ld];refine SC.by_ (ixf_vec n a0.aS a1 _ h4 _ _ (1::q) F fp S C x e1 (by rw [e2];exact hk) (by rw [hx])) ?_;simp only [go_sem,seval];apply z;simp only [seval,aE,aW,aT,aC,aU,aP];refine aN (aR λ_ z=>?_);simp only [go_sem,seval];apply z;simp only [seval,aE,aW,aT,aC,aU,aP];refine gB ?_
  try simp only [aT,aP]
  obtain rfl:=bX h;refine ⟨by simp,?_⟩;simp only [go_sem,seval,e4]
theorem Dy (n:Nat) (a0:aQ) (r:Int) (h:rO n a0=some r) (q:Pa) (m:M) (vs:List V) (vv bv:V) (hy:vs.map V.weak1=[.agg (sK a0 vv bv)]/\fQ m.hp vv 3 (a0.bW.map bB.C)) :
  SC prog 26 vs q m (λv m'=>v=.lit (.int .i64 r)/\m'=m):=by
 obtain ⟨hv,hR⟩:=hy;refine SC.weak ?_;rw [hv];have hS:=hR.shC;refine vC func26 call26 ntmps26 results26 ?_;unfold rO at h;obtain ⟨⟨f2,f3⟩,h⟩:=dK h;have hl:(a0.bW.take a0.bS.toNat).length=a0.bS.toNat:=by rw [In];omega
 have hRc:=fQ.cutC hR f3;have hSc:jG (xJ vv a0.bS.toNat) 3 (a0.bW.take a0.bS.toNat).length:=hRc.shC;have hsl:∀ {C:V->Prop},LP prog (.sl 65) vv none (some (.lit (.int .i64 a0.bS))) C=C (xJ vv a0.bS.toNat):=jG.slHi (P:=prog) (k:=.i64) hS sU f2 f3
 have hraw:(vv=.nilv/\vv.raw0=.list .self []) ∨ vv.raw0=vv:=by
  rcases hS with ⟨hF,_⟩ | ⟨id,hF⟩
  ·exact .inl ⟨hF,by rw [hF];rfl⟩
  ·exact .inr (by rw [hF];rfl)
 rcases hraw with ⟨hF,hraw⟩ | hraw
 refine aN (aR λ_ z=>?_);simp only [go_sem,seval,hraw];apply z;simp only [seval,aE,aW,aT,aC,aU,aP];refine uG (id:=0::q) (off:=4) (cs:=[.lit (.string (bs a0.iS)),.lit (.bool a0.jT),.lit (.int .i64 a0.cW),.lit (.int .i64 a0.bS),.list .self [],bv.raw0]) (by simp only [go_sem,seval]) rfl ?_;refine JZ (λm1=>m1.blk (0::q)=some [.lit (.string (bs a0.iS)),.lit (.bool a0.jT),.lit (.int .i64 a0.cW),.lit (.int .i64 a0.bS),vv,bv.raw0]/\m1.hp=m.hp/\m1.gl=m.gl/\m.back q m1=m) (by simp only [go_sem,seval,hF,bJ,bC]) ?_
 rotate_left
 refine aN (aR λ_ z=>?_);simp only [go_sem,seval,hraw];apply z;simp only [seval,aE,aW,aT,aC,aU,aP];refine JZ (λm1=>m1.blk (0::q)=some [.lit (.string (bs a0.iS)),.lit (.bool a0.jT),.lit (.int .i64 a0.cW),.lit (.int .i64 a0.bS),vv,bv.raw0]/\m1.hp=m.hp/\m1.gl=m.gl/\m.back q m1=m) (by simp only [go_sem,seval,bJ,bC]) ?_
 all_goals
  rintro m1 ⟨e0,e2,e3,e4⟩;refine aN (aR λ_ z=>?_);simp only [go_sem,seval];apply z;simp only [seval,aE,aW,aT,aC,aU,aP];refine aN (aN (aR λ_ z=>?_));simp only [go_sem,seval,f2,f3,e0,hS.ld,hsl,hSc.slen];apply z;simp only [seval,aE,aW,aT,aC,aU,aP];refine gN ?_;obtain ⟨y7,hy7,h⟩:=aH h;refine yE (λc E' m'=>∃v5 v6,oF a0 c v5 v6=some y7/\E' 3=.lit (.int .i64 v5)/\E' 10=xJ vv a0.bS.toNat/\E' 11=.lit (.int .i64 ((a0.bW.take a0.bS.toNat).length:Int))/\E' 12=.lit (.int .i64 v6)/\m'.hp=m.hp/\m'.gl=m.gl/\m.back q m'=m) n ⟨(0:Int),(0:Int),hy7,?_⟩ ?_
  ·simp only [go_sem,seval,bJ,bG,aV,bC,f2,f3,e2,e3,e4]
  rintro i4 c8 E9 m10 ⟨v5,v6,hy7,e11⟩ _
  rcases c8 with _ | c8
  ·cases hy7
  rw [oF] at hy7;refine aN (aR λ_ z=>?_);simp only [go_sem,seval,f2,f3,e11];apply z;simp only [seval,aE,aW,aT,aC,aU,aP];refine aN (lL hy7 (λc12 hy7=>?_) (λc12 hy7=>?_))
  ·refine fO ?_
   try simp only [seval,aE,aW,aT,aC,aU,aP]
   refine aN ?_;obtain ⟨y13,hy13,hy7⟩:=aH hy7;refine Ae 17 (λE' m'=>E' 3=.lit (.int .i64 y13)/\E' 10=xJ vv a0.bS.toNat/\E' 11=.lit (.int .i64 ((a0.bW.take a0.bS.toNat).length:Int))/\E' 12=.lit (.int .i64 v6)/\m'.hp=m.hp/\m'.gl=m.gl/\m.back q m'=m) ?_ ?_
   ·refine gN (aN ?_);obtain ⟨x14,h19,hy13⟩:=aH hy13;obtain ⟨f16,f17,f18⟩:=cO h19;obtain ⟨HV,bO,s0,s1,s2,s3⟩:=fQ.readVar hRc f18;have h3:(3<=bO.length+1+1+1)=True:=eq_true (by omega);have hix:∀ {C:V->Prop},rJ prog (.sl 65) (xJ vv a0.bS.toNat) (.lit (.int .i64 v6)) C=C (.pp (pQ (xJ vv a0.bS.toNat)) (v6.toNat*3)):=jG.ix (P:=prog) (k:=.i64) hSc sU f16 f17;refine aR λ_ z=>?_;simp only [go_sem,seval,f2,f3,c12,f16,f17,f18,e11,hix,s0,s1,h3];apply z;simp only [seval,aE,aW,aT,aC,aU,aP];refine aN (aN (aR λ_ z=>?_));simp only [go_sem,seval,f2,f3,c12,f16,f17,f18,e11];apply z;simp only [seval,aE,aW,aT,aC,aU,aP];refine lL hy13 (λc20 hy13=>?_) (λc20 hy13=>?_)
    ·refine aR λ_ z=>?_;simp only [go_sem,seval,f2,f3,c12,f16,f17,f18,c20,(by decide:(2:Int) ≠ (0:Int)),e11];apply z;simp only [seval,aE,aW,aT,aC,aU,aP];refine aR λ_ z=>?_;simp only [go_sem,seval,f2,f3,c12,f16,f17,f18,c20,(by decide:(2:Int) ≠ (0:Int)),e11];apply z;simp only [seval,aE,aW,aT,aC,aU,aP];obtain rfl:=bX hy13;refine ⟨by decide,?_⟩;simp only [go_sem,seval,bJ,bG,aV,bC,f2,f3,c12,f16,f17,f18,c20,(by decide:(2:Int) ≠ (0:Int)),e11]
    ·refine fO ?_
     try simp only [seval,aE,aW,aT,aC,aU,aP]
     refine aR λ_ z=>?_;simp only [go_sem,seval,f2,f3,c12,f16,f17,f18,c20,e11];apply z;simp only [seval,aE,aW,aT,aC,aU,aP];obtain rfl:=bX hy13;refine ⟨by decide,?_⟩;simp only [go_sem,seval,bJ,bG,aV,bC,f2,f3,c12,f16,f17,f18,c20,e11]
   ·intro E21 m22 e23 _;simp only [seval,aE,aW,aT,aC,aU,aP];refine aR λ_ z=>?_;simp only [go_sem,seval,f2,f3,c12,e23];apply z;simp only [seval,aE,aW,aT,aC,aU,aP];refine ⟨c8,MV _,y13,(i64.wrap (v6+(1:Int))),hy7,?_⟩;simp only [go_sem,seval,bJ,bG,aV,bC,f2,f3,c12,e23]
  ·refine oK ?_
   try simp only [seval,aW,aU,aE,aW,aT,aC,aU,aP]
   obtain rfl:=bX hy7;refine aN (aR λ_ z=>?_);simp only [go_sem,seval,f2,f3,c12,e11];apply z;simp only [seval,aE,aW,aT,aC,aU,aP];refine gB ?_
   try simp only [aT,aP]
   obtain rfl:=bX h;refine ⟨by simp,?_⟩;simp only [go_sem,seval,bJ,bG,aV,bC,f2,f3,c12,e11]
