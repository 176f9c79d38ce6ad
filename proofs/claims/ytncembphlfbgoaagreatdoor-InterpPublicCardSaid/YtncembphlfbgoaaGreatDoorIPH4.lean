/- Lemmas of ours. -/
import Derived.Test.YtncembphlfbgoaaGreatDoorIPH1
import Derived.Test.YtncembphlfbgoaaGreatDoorIPFacts
namespace Go.Proofs.YtncembphlfbgoaaGreatDoor.Abs
open Go.RowKit Tryz
open IntKind (i64 u32 u64 u8)
set_option linter.unusedVariables false
set_option maxRecDepth 10000
theorem Pe {nm:cQ} {x1 x2 x3 x4 x5:V} {a1:cQ} {q:Pa} {m:M} {P0:Pa} (w0:m.blk P0=some [.lit (.string (bs a1))]) :
  SC prog 32 [.agg [.lit (.string (bs nm)),x1,x2,x3,x4,x5],.ptr P0 0] q m (fun v m'=>v=.lit (.bool (decide (nm=a1)))/\m'=m):=by
 refine SC.apart w0 fun u0=>?_;refine eD func32 call32 ntmps32 results32 ?_;refine sW ?_;simp only [go_sem,Nat.reduceAdd,lQ,oU,true_and];refine sW ?_;simp only [go_sem,seval,qU,eO u0,w0];refine aO ?_;refine ⟨by simp,?_⟩;simp only [go_sem,↓reduceIte,and_true,bF,bK]
theorem ixf_vec (n:Nat) (a0:List aR) (a1:cQ) (r:Int) (h:eY n a0 a1=some r) (q:Pa) (m:M) (P0:Pa) (F fp S C:V) (x:aD) (w0:m.blk P0=some [.lit (.string (bs a1))]) (hk:eL F fp S C m.hp x) (hx:x.p_.bD=a0) :
  SC prog 31 [F,.fn (.func 32) [] [.ptr P0 0]] q m (fun v m'=>v=.lit (.int .i64 r)/\m'=m):=by
 refine SC.apart w0 fun u0=>?_;refine eD func31 call31 ntmps31 results31 ?_;unfold eY at h;have hS:sZ F 6 a0.length:=by rw [←hx];exact eL.funcsR hk
 refine aL ?_;refine aF (sW ?_);simp only [go_sem,seval,hS.slen];refine bM ?_;obtain ⟨y3,hy3,h⟩:=aA h;refine kX (fun c E' m'=>∃v2,cU a0 a1 c v2=some y3/\E' 0=F/\E' 1=.fn (.func 32) [] [.ptr P0 0]/\E' 7=.lit (.int .i64 (a0.length:Int))/\E' 8=.lit (.int .i64 v2)/\m'.blk P0=some ([.lit (.string (bs a1))])/\m'.gl=m.gl/\m'.hp=m.hp/\m.back q m'=m) n ⟨(0:Int),hy3,?_⟩ ?_
 ·simp only [go_sem,seval,and_true,bK,w0]
 rintro i1 c4 E5 m6 ⟨v2,hy3,e7⟩ _
 rcases c4 with _ | c4
 ·cases hy3
 rw [cU] at hy3;refine aL ?_;refine aF (bH hy3 (fun c8 hy3=>?_) (fun c8 hy3=>?_))
 ·refine aU ?_
  refine aF (bM (aL ?_));refine aF ?_;obtain ⟨x9,h14,hy3⟩:=aA hy3;obtain ⟨f11,f12,f13⟩:=aZ h14;obtain ⟨x10,h15,hy3⟩:=aA hy3;obtain ⟨vv,bv,HF,fc⟩:=eL.foc hk (i:=v2.toNat) (f:=x9) (by rw [hx];exact f13);obtain ⟨rs,s0,s1,s2,s3,s4,s5,s6⟩:=fc.rows;have hvs:=fc.vars.shC;have h6:(6<=rs.length+1+1+1+1+1+1)=True:=eq_true (by omega);have hix:∀ {C:V->Prop},qW prog (.sl 44) F (.lit (.int .i64 v2)) C=C (.pp (oL F) (v2.toNat*6)):=sZ.ix (P:=prog) (k:=.i64) hS Ku f11 f12;refine aP fun _ z=>?_;simp only [go_sem,seval,lQ,oU,uG,BO,true_and,Dm,Bd,jC,e7,hix,fc.hF,s0,s6,h6,hvs.shr];have hd:x10=decide (x9.jX=a1):=(bO h15).symm;refine SC.bA (Pe (nm:=x9.jX) (P0:=P0) (a1:=a1)) ?_;simp only [go_sem,Nat.reduceAdd];apply z;rw [←hd];refine bH hy3 (fun c16 hy3=>?_) (fun c16 hy3=>?_)
  ·refine aL ?_;refine aO ?_
   try simp only [aT,bI]
   obtain rfl:=bO hy3;simp only [Es] at h;obtain rfl:=bO h;refine ⟨by simp,?_⟩;simp only [go_sem,↓reduceIte,and_true,e7]
  ·refine aU ?_
   try simp only [aK,aQ]
   refine cH ?_;refine ⟨c4,xQ _,(i64.wrap (v2+(1:Int))),hy3,?_⟩;simp only [go_sem,seval,and_true,e7]
 ·refine dQ ?_
  try simp only [seval,bZ,bR,aK,bZ,bR]
  obtain rfl:=bO hy3;simp only [GH] at h;refine aL ?_;refine aO ?_;obtain rfl:=bO h;refine ⟨by simp,?_⟩;simp only [go_sem,↓reduceIte,and_true,e7]
theorem vP (n:Nat) (a0:aN) (a1:cQ) (r:Int × Bool) (h:nU n a0 a1=some r) (q:Pa) (m:M) (vs:List V) (F fp S C:V) (x:aD) (hy:vs.map V.weak1=[.agg [F],.lit (.string (bs a1))]/\eL F fp S C m.hp x/\x.p_=a0) :
  SC prog 11 vs q m (fun v m'=>v=.tup [.lit (.int .i64 r.1),.lit (.bool r.2)]/\m'=m):=by
 obtain ⟨hv,hk,hx⟩:=hy;refine SC.weak ?_;rw [hv];have hS:=eL.funcsR hk;refine eD func11 call11 ntmps11 results11 ?_;unfold nU at h
 have hraw:(F=.nilv/\F.raw0=.list .self []) ∨ F.raw0=F:=by
  rcases hS with ⟨hF,_⟩ | ⟨id,hF⟩
  ·exact .inl ⟨hF,by rw [hF];rfl⟩
  ·exact .inr (by rw [hF];rfl)
 rcases hraw with ⟨hF,hraw⟩ | hraw
 refine sW ?_;simp only [go_sem,seval,lQ,oU,true_and,hraw];refine tI (id:=0::q) (off:=0) (cs:=[.list .self []]) (by simp only [go_sem,↓reduceIte,xdu,and_true,List.cons.injEq]) rfl ?_;refine HM (fun m1=>m1.blk (0::q)=some [F]/\m1.blk (1::q)=some [.lit (.string (bs a1))]/\m1.hp=m.hp/\m1.gl=m.gl/\m.back q m1=m) (by simp only [go_sem,↓reduceIte,and_true,EB,hF,List.cons.injEq,Nat.succ_ne_self,bF,bK]) ?_
 rotate_left
 refine sW ?_;simp only [go_sem,seval,lQ,oU,true_and,hraw];refine HM (fun m1=>m1.blk (0::q)=some [F]/\m1.blk (1::q)=some [.lit (.string (bs a1))]/\m1.hp=m.hp/\m1.gl=m.gl/\m.back q m1=m) (by simp only [go_sem,↓reduceIte,xdu,and_true,List.cons.injEq,bF,bK]) ?_
 all_goals
  rintro m1 ⟨e0,e1,e2,e3,e4⟩;refine aF ?_;obtain ⟨x3,h4,h⟩:=aA h;refine aP fun _ z=>?_;simp only [go_sem,seval,lQ,oU,uG,Et,qU,e0,hS.ld];refine SC.by_ (ixf_vec n a0.bD a1 _ h4 _ _ (1::q) F fp S C x e1 (by rw [e2];exact hk) (by rw [hx])) ?_;simp only [go_sem,seval];apply z;refine aL ?_;refine aO ?_;obtain rfl:=bO h;refine ⟨by simp,?_⟩;simp only [go_sem,seval,lQ,oU,and_true,e4]
theorem DO (n:Nat) (a0:aR) (r:Int) (h:rH n a0=some r) (q:Pa) (m:M) (vs:List V) (vv bv:V) (hy:vs.map V.weak1=[.agg (sA a0 vv bv)]/\fD m.hp vv 3 (a0.aV.map bB.C)) :
  SC prog 57 vs q m (fun v m'=>v=.lit (.int .i64 r)/\m'=m):=by
 obtain ⟨hv,hR⟩:=hy;refine SC.weak ?_;rw [hv];have hS:=hR.shC;refine eD func57 call57 ntmps57 results57 ?_;unfold rH at h;obtain ⟨⟨f2,f3⟩,h⟩:=bP h;have hl:(a0.aV.take a0.aW.toNat).length=a0.aW.toNat:=by rw [Ei];omega
 have hRc:=fD.cutC hR f3;have hSc:sZ (xB vv a0.aW.toNat) 3 (a0.aV.take a0.aW.toNat).length:=hRc.shC;have hsl:∀ {C:V->Prop},LX prog (.sl 66) vv none (some (.lit (.int .i64 a0.aW))) C=C (xB vv a0.aW.toNat):=sZ.slHi (P:=prog) (k:=.i64) hS GX f2 f3
 have hraw:(vv=.nilv/\vv.raw0=.list .self []) ∨ vv.raw0=vv:=by
  rcases hS with ⟨hF,_⟩ | ⟨id,hF⟩
  ·exact .inl ⟨hF,by rw [hF];rfl⟩
  ·exact .inr (by rw [hF];rfl)
 rcases hraw with ⟨hF,hraw⟩ | hraw
 refine sW ?_;simp only [go_sem,Nat.reduceAdd,lQ,oU,true_and,hraw];refine tI (id:=0::q) (off:=4) (cs:=[.lit (.string (bs a0.jX)),.lit (.bool a0.iG),.lit (.int .i64 a0.cR),.lit (.int .i64 a0.aW),.list .self [],bv.raw0]) (by simp only [go_sem,↓reduceIte]) rfl ?_;refine HM (fun m1=>m1.blk (0::q)=some [.lit (.string (bs a0.jX)),.lit (.bool a0.iG),.lit (.int .i64 a0.cR),.lit (.int .i64 a0.aW),vv,bv.raw0]/\m1.hp=m.hp/\m1.gl=m.gl/\m.back q m1=m) (by simp only [go_sem,↓reduceIte,and_true,EB,FZ,hF,bF,bK]) ?_
 rotate_left
 refine sW ?_;simp only [go_sem,Nat.reduceAdd,lQ,oU,true_and,hraw];refine HM (fun m1=>m1.blk (0::q)=some [.lit (.string (bs a0.jX)),.lit (.bool a0.iG),.lit (.int .i64 a0.cR),.lit (.int .i64 a0.aW),vv,bv.raw0]/\m1.hp=m.hp/\m1.gl=m.gl/\m.back q m1=m) (by simp only [go_sem,↓reduceIte,and_true,bF,bK]) ?_
 all_goals
  rintro m1 ⟨e0,e2,e3,e4⟩;refine aL ?_;refine aF (sW ?_);simp only [go_sem,seval,Ej,xeh,zM,qU,e0,hS.ld,hsl,hSc.slen];refine bM ?_;obtain ⟨y7,hy7,h⟩:=aA h;refine kX (fun c E' m'=>∃v5 v6,mQ a0 c v5 v6=some y7/\E' 3=.lit (.int .i64 v5)/\E' 10=xB vv a0.aW.toNat/\E' 11=.lit (.int .i64 ((a0.aV.take a0.aW.toNat).length:Int))/\E' 12=.lit (.int .i64 v6)/\m'.hp=m.hp/\m'.gl=m.gl/\m.back q m'=m) n ⟨(0:Int),(0:Int),hy7,?_⟩ ?_
  ·simp only [go_sem,seval,and_true,e2,e3,e4]
  rintro i4 c8 E9 m10 ⟨v5,v6,hy7,e11⟩ _
  rcases c8 with _ | c8
  ·cases hy7
  rw [mQ] at hy7;refine aL ?_;refine aF (bH hy7 (fun c12 hy7=>?_) (fun c12 hy7=>?_))
  ·refine aU ?_
   refine aF ?_;obtain ⟨y13,hy13,hy7⟩:=aA hy7;refine fX 17 (fun E' m'=>E' 3=.lit (.int .i64 y13)/\E' 10=xB vv a0.aW.toNat/\E' 11=.lit (.int .i64 ((a0.aV.take a0.aW.toNat).length:Int))/\E' 12=.lit (.int .i64 v6)/\m'.hp=m.hp/\m'.gl=m.gl/\m.back q m'=m) ?_ ?_
   ·refine bM (aF ?_);obtain ⟨x14,h19,hy13⟩:=aA hy13;obtain ⟨f16,f17,f18⟩:=aZ h19;obtain ⟨HV,rest,s0,s1,s2,s3⟩:=fD.readVar hRc f18;have h3:(3<=rest.length+1+1+1)=True:=eq_true (by omega);have hix:∀ {C:V->Prop},qW prog (.sl 66) (xB vv a0.aW.toNat) (.lit (.int .i64 v6)) C=C (.pp (oL (xB vv a0.aW.toNat)) (v6.toNat*3)):=sZ.ix (P:=prog) (k:=.i64) hSc GX f16 f17;refine aP fun _ z=>?_;simp only [go_sem,seval,lQ,oU,true_and,Dm,Bd,EB,FZ,jC,lA,f17,e11,hix,s0,s1,h3];apply z;refine aF (sW ?_);simp only [go_sem,seval,zM,qU];refine bH hy13 (fun c20 hy13=>?_) (fun c20 hy13=>?_)
    ·refine aP fun _ z=>?_;simp only [go_sem,seval,true_and,c20,(by decide:(2:Int) ≠ (0:Int)),e11];apply z;refine eR fun _ z=>?_;simp only [go_sem,seval];apply z;simp only [aK,aQ];obtain rfl:=bO hy13;refine ⟨by decide,?_⟩;simp only [go_sem,seval,and_true,bF,e11]
    ·refine aU ?_
     refine eR fun _ z=>?_;simp only [go_sem,seval,c20,e11];apply z;simp only [aK,aQ];obtain rfl:=bO hy13;refine ⟨by decide,?_⟩;simp only [go_sem,seval,and_true,bF,e11]
   ·intro E21 m22 e23 _;refine cH ?_;refine ⟨c8,xQ _,y13,(i64.wrap (v6+(1:Int))),hy7,?_⟩;simp only [go_sem,seval,and_true,e23]
  ·refine dQ ?_
   try simp only [seval,bZ,bR,aK,bZ,bR]
   obtain rfl:=bO hy7;refine aL ?_;refine aO ?_;obtain rfl:=bO h;refine ⟨by simp,?_⟩;simp only [go_sem,↓reduceIte,and_true,e11]
end Go.Proofs.YtncembphlfbgoaaGreatDoor.Abs
