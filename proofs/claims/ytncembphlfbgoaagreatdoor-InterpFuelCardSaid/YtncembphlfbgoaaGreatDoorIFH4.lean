/- Lemmas of ours. -/
import Derived.Test.YtncembphlfbgoaaGreatDoorIFH1
import Derived.Test.YtncembphlfbgoaaGreatDoorIFFacts
namespace Go.Proofs.YtncembphlfbgoaaGreatDoor.Abs
open Go.RowKit Tryz
open IntKind (i64 u32 u64 u8)
set_option linter.unusedVariables false
set_option maxRecDepth 10000
theorem Ow {nm:cR} {x1 x2 x3 x4 x5:V} {a1:cR} {q:Pa} {m:M} {P0:Pa} (w0:m.blk P0=some [.lit (.string (bs a1))]) :
  SC prog 32 [.agg [.lit (.string (bs nm)),x1,x2,x3,x4,x5],.ptr P0 0] q m (fun v m'=>v=.lit (.bool (decide (nm=a1)))/\m'=m):=by
 refine SC.apart w0 fun u0=>?_;refine dZ func32 call32 ntmps32 results32 ?_;refine aM ?_;simp only [go_sem,Nat.reduceAdd,mK,oL,true_and];refine aM ?_;simp only [go_sem,seval,qU,cQ u0,w0];refine aQ ?_;refine ⟨by simp,?_⟩;simp only [go_sem,↓reduceIte,and_true,aO,aJ]
theorem ixf_vec (n:Nat) (a0:List aY) (a1:cR) (r:Int) (h:eV n a0 a1=some r) (q:Pa) (m:M) (P0:Pa) (F fp S C:V) (x:aD) (w0:m.blk P0=some [.lit (.string (bs a1))]) (hk:eJ F fp S C m.hp x) (hx:x.p_.bG=a0) :
  SC prog 31 [F,.fn (.func 32) [] [.ptr P0 0]] q m (fun v m'=>v=.lit (.int .i64 r)/\m'=m):=by
 refine SC.apart w0 fun u0=>?_;refine dZ func31 call31 ntmps31 results31 ?_;unfold eV at h;have hS:sQ F 6 a0.length:=by rw [←hx];exact eJ.funcsR hk
 refine aM ?_;simp only [go_sem];refine aF (aM ?_);simp only [go_sem,seval,hS.slen];refine bN ?_;obtain ⟨y3,hy3,h⟩:=aA h;refine kN (fun c E' m'=>∃v2,cV a0 a1 c v2=some y3/\E' 0=F/\E' 1=.fn (.func 32) [] [.ptr P0 0]/\E' 7=.lit (.int .i64 (a0.length:Int))/\E' 8=.lit (.int .i64 v2)/\m'.blk P0=some ([.lit (.string (bs a1))])/\m'.gl=m.gl/\m'.hp=m.hp/\m.back q m'=m) n ⟨(0:Int),hy3,?_⟩ ?_
 ·simp only [go_sem,seval,and_true,aJ,w0]
 rintro i1 c4 E5 m6 ⟨v2,hy3,e7⟩ _
 rcases c4 with _ | c4
 ·cases hy3
 rw [cV] at hy3;refine aM ?_;simp only [go_sem,e7];refine aF (bJ hy3 (fun c8 hy3=>?_) (fun c8 hy3=>?_))
 ·refine aV ?_
  refine aF (bN (aM ?_));simp only [go_sem,seval,c8,e7];refine aF ?_;obtain ⟨x9,h14,hy3⟩:=aA hy3;obtain ⟨f11,f12,f13⟩:=aX h14;obtain ⟨x10,h15,hy3⟩:=aA hy3;obtain ⟨vv,bv,HF,fc⟩:=eJ.foc hk (i:=v2.toNat) (f:=x9) (by rw [hx];exact f13);obtain ⟨rs,s0,s1,s2,s3,s4,s5,s6⟩:=fc.rows;have hvs:=fc.vars.shC;have h6:(6<=rs.length+1+1+1+1+1+1)=True:=eq_true (by omega);have hix:∀ {C:V->Prop},qI prog (.sl 44) F (.lit (.int .i64 v2)) C=C (.pp (oP F) (v2.toNat*6)):=sQ.ix (P:=prog) (k:=.i64) hS JL f11 f12;refine aN fun _ z=>?_;simp only [go_sem,seval,mK,oL,tS,BB,true_and,CY,AQ,jK,e7,hix,fc.hF,s0,s6,h6,hvs.shr];have hd:x10=decide (x9.jP=a1):=(bV h15).symm;refine SC.by_ (Ow (nm:=x9.jP) (P0:=P0) (a1:=a1) (by simp only [go_sem,e7])) ?_;simp only [go_sem,Nat.reduceAdd];apply z;rw [←hd];refine bJ hy3 (fun c16 hy3=>?_) (fun c16 hy3=>?_)
  ·refine aM ?_;simp only [go_sem,seval,c16];refine aQ ?_
   try simp only [aU,bK]
   obtain rfl:=bV hy3;simp only [DX] at h;obtain rfl:=bV h;refine ⟨by simp,?_⟩;simp only [go_sem,↓reduceIte,and_true,e7]
  ·refine aV ?_
   try simp only [aL,aS]
   refine aN fun _ z=>?_;simp only [go_sem,seval,c16,e7];apply z;refine ⟨c4,xH _,(i64.wrap (v2+(1:Int))),hy3,?_⟩;simp only [go_sem,seval,and_true,e7]
 ·refine dQ ?_
  try simp only [seval,bZ,bR,aL,bZ,bR]
  obtain rfl:=bV hy3;simp only [FW] at h;refine aM ?_;simp only [go_sem,Nat.reduceAdd,c8];refine aQ ?_;obtain rfl:=bV h;refine ⟨by simp,?_⟩;simp only [go_sem,↓reduceIte,and_true,e7]
theorem vE (n:Nat) (a0:aR) (a1:cR) (r:Int × Bool) (h:nJ n a0 a1=some r) (q:Pa) (m:M) (vs:List V) (F fp S C:V) (x:aD) (hy:vs.map V.weak1=[.agg [F],.lit (.string (bs a1))]/\eJ F fp S C m.hp x/\x.p_=a0) :
  SC prog 11 vs q m (fun v m'=>v=.tup [.lit (.int .i64 r.1),.lit (.bool r.2)]/\m'=m):=by
 obtain ⟨hv,hk,hx⟩:=hy;refine SC.weak ?_;rw [hv];have hS:=eJ.funcsR hk;refine dZ func11 call11 ntmps11 results11 ?_;unfold nJ at h
 have hraw:(F=.nilv/\F.raw0=.list .self []) ∨ F.raw0=F:=by
  rcases hS with ⟨hF,_⟩ | ⟨id,hF⟩
  ·exact .inl ⟨hF,by rw [hF];rfl⟩
  ·exact .inr (by rw [hF];rfl)
 rcases hraw with ⟨hF,hraw⟩ | hraw
 refine aM ?_;simp only [go_sem,seval,mK,oL,true_and,hraw];refine tL (id:=0::q) (off:=0) (cs:=[.list .self []]) (by simp only [go_sem,↓reduceIte,xdt,and_true,List.cons.injEq]) rfl ?_;refine Jp (fun m1=>m1.blk (0::q)=some [F]/\m1.blk (1::q)=some [.lit (.string (bs a1))]/\m1.hp=m.hp/\m1.gl=m.gl/\m.back q m1=m) (by simp only [go_sem,↓reduceIte,and_true,En,hF,List.cons.injEq,Nat.succ_ne_self,aO,aJ]) ?_
 rotate_left
 refine aM ?_;simp only [go_sem,seval,mK,oL,true_and,hraw];refine Jp (fun m1=>m1.blk (0::q)=some [F]/\m1.blk (1::q)=some [.lit (.string (bs a1))]/\m1.hp=m.hp/\m1.gl=m.gl/\m.back q m1=m) (by simp only [go_sem,↓reduceIte,xdt,and_true,List.cons.injEq,aO,aJ]) ?_
 all_goals
  rintro m1 ⟨e0,e1,e2,e3,e4⟩;refine aF ?_;obtain ⟨x3,h4,h⟩:=aA h;refine aN fun _ z=>?_;simp only [go_sem,seval,mK,oL,tS,Ef,qU,e0,hS.ld];refine SC.by_ (ixf_vec n a0.bG a1 _ h4 _ _ (1::q) F fp S C x e1 (by rw [e2];exact hk) (by rw [hx])) ?_;simp only [go_sem,seval];apply z;refine aM ?_;simp only [go_sem,seval];refine aQ ?_;obtain rfl:=bV h;refine ⟨by simp,?_⟩;simp only [go_sem,seval,mK,oL,and_true,e4]
theorem DB (n:Nat) (a0:aY) (r:Int) (h:qP n a0=some r) (q:Pa) (m:M) (vs:List V) (vv bv:V) (hy:vs.map V.weak1=[.agg (rM a0 vv bv)]/\gF m.hp vv 3 (a0.bB.map aZ.C)) :
  SC prog 57 vs q m (fun v m'=>v=.lit (.int .i64 r)/\m'=m):=by
 obtain ⟨hv,hR⟩:=hy;refine SC.weak ?_;rw [hv];have hS:=hR.shC;refine dZ func57 call57 ntmps57 results57 ?_;unfold qP at h;obtain ⟨⟨f2,f3⟩,h⟩:=bS h;have hl:(a0.bB.take a0.bD.toNat).length=a0.bD.toNat:=by rw [EF];omega
 have hRc:=gF.cutC hR f3;have hSc:sQ (wS vv a0.bD.toNat) 3 (a0.bB.take a0.bD.toNat).length:=hRc.shC;have hsl:∀ {C:V->Prop},Ls prog (.sl 66) vv none (some (.lit (.int .i64 a0.bD))) C=C (wS vv a0.bD.toNat):=sQ.slHi (P:=prog) (k:=.i64) hS GB f2 f3
 have hraw:(vv=.nilv/\vv.raw0=.list .self []) ∨ vv.raw0=vv:=by
  rcases hS with ⟨hF,_⟩ | ⟨id,hF⟩
  ·exact .inl ⟨hF,by rw [hF];rfl⟩
  ·exact .inr (by rw [hF];rfl)
 rcases hraw with ⟨hF,hraw⟩ | hraw
 refine aM ?_;simp only [go_sem,Nat.reduceAdd,mK,oL,true_and,hraw];refine tL (id:=0::q) (off:=4) (cs:=[.lit (.string (bs a0.jP)),.lit (.bool a0.iC),.lit (.int .i64 a0.cX),.lit (.int .i64 a0.bD),.list .self [],bv.raw0]) (by simp only [go_sem,↓reduceIte]) rfl ?_;refine Jp (fun m1=>m1.blk (0::q)=some [.lit (.string (bs a0.jP)),.lit (.bool a0.iC),.lit (.int .i64 a0.cX),.lit (.int .i64 a0.bD),vv,bv.raw0]/\m1.hp=m.hp/\m1.gl=m.gl/\m.back q m1=m) (by simp only [go_sem,↓reduceIte,and_true,En,FI,hF,aO,aJ]) ?_
 rotate_left
 refine aM ?_;simp only [go_sem,Nat.reduceAdd,mK,oL,true_and,hraw];refine Jp (fun m1=>m1.blk (0::q)=some [.lit (.string (bs a0.jP)),.lit (.bool a0.iC),.lit (.int .i64 a0.cX),.lit (.int .i64 a0.bD),vv,bv.raw0]/\m1.hp=m.hp/\m1.gl=m.gl/\m.back q m1=m) (by simp only [go_sem,↓reduceIte,and_true,aO,aJ]) ?_
 all_goals
  rintro m1 ⟨e0,e2,e3,e4⟩;refine aM ?_;simp only [go_sem,Nat.reduceAdd];refine aF (aM ?_);simp only [go_sem,seval,Ee,xeg,zB,qU,e0,hS.ld,hsl,hSc.slen];refine bN ?_;obtain ⟨y7,hy7,h⟩:=aA h;refine kN (fun c E' m'=>∃v5 v6,mI a0 c v5 v6=some y7/\E' 3=.lit (.int .i64 v5)/\E' 10=wS vv a0.bD.toNat/\E' 11=.lit (.int .i64 ((a0.bB.take a0.bD.toNat).length:Int))/\E' 12=.lit (.int .i64 v6)/\m'.hp=m.hp/\m'.gl=m.gl/\m.back q m'=m) n ⟨(0:Int),(0:Int),hy7,?_⟩ ?_
  ·simp only [go_sem,seval,and_true,e2,e3,e4]
  rintro i4 c8 E9 m10 ⟨v5,v6,hy7,e11⟩ _
  rcases c8 with _ | c8
  ·cases hy7
  rw [mI] at hy7;refine aM ?_;simp only [go_sem,e11];refine aF (bJ hy7 (fun c12 hy7=>?_) (fun c12 hy7=>?_))
  ·refine aV ?_
   refine aF ?_;obtain ⟨y13,hy13,hy7⟩:=aA hy7;refine gN 17 (fun E' m'=>E' 3=.lit (.int .i64 y13)/\E' 10=wS vv a0.bD.toNat/\E' 11=.lit (.int .i64 ((a0.bB.take a0.bD.toNat).length:Int))/\E' 12=.lit (.int .i64 v6)/\m'.hp=m.hp/\m'.gl=m.gl/\m.back q m'=m) ?_ ?_
   ·refine bN (aF ?_);obtain ⟨x14,h19,hy13⟩:=aA hy13;obtain ⟨f16,f17,f18⟩:=aX h19;obtain ⟨HV,rest,s0,s1,s2,s3⟩:=gF.readVar hRc f18;have h3:(3<=rest.length+1+1+1)=True:=eq_true (by omega);have hix:∀ {C:V->Prop},qI prog (.sl 66) (wS vv a0.bD.toNat) (.lit (.int .i64 v6)) C=C (.pp (oP (wS vv a0.bD.toNat)) (v6.toNat*3)):=sQ.ix (P:=prog) (k:=.i64) hSc GB f16 f17;refine aN fun _ z=>?_;simp only [go_sem,seval,mK,oL,true_and,CY,AQ,En,FI,jK,lD,f17,e11,hix,s0,s1,h3];apply z;refine aF (aM ?_);simp only [go_sem,seval,zB,qU];refine bJ hy13 (fun c20 hy13=>?_) (fun c20 hy13=>?_)
    ·refine aN fun _ z=>?_;simp only [go_sem,seval,true_and,c20,(by decide:(2:Int) ≠ (0:Int)),e11];apply z;refine fB fun _ z=>?_;simp only [go_sem,seval];apply z;simp only [aL,aS];obtain rfl:=bV hy13;refine ⟨by decide,?_⟩;simp only [go_sem,seval,and_true,aO,e11]
    ·refine aV ?_
     refine fB fun _ z=>?_;simp only [go_sem,seval,c20,e11];apply z;simp only [aL,aS];obtain rfl:=bV hy13;refine ⟨by decide,?_⟩;simp only [go_sem,seval,and_true,aO,e11]
   ·intro E21 m22 e23 _;refine aN fun _ z=>?_;simp only [go_sem,seval,e23];apply z;refine ⟨c8,xH _,y13,(i64.wrap (v6+(1:Int))),hy7,?_⟩;simp only [go_sem,seval,and_true,e23]
  ·refine dQ ?_
   try simp only [seval,bZ,bR,aL,bZ,bR]
   obtain rfl:=bV hy7;refine aM ?_;simp only [go_sem,seval,c12,e11];refine aQ ?_;obtain rfl:=bV h;refine ⟨by simp,?_⟩;simp only [go_sem,↓reduceIte,and_true,e11]
end Go.Proofs.YtncembphlfbgoaaGreatDoor.Abs
