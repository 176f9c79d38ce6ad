import Derived.Test.YtknbgnpeiohifaaGreatDoorGH1
import Derived.Test.YtknbgnpeiohifaaGreatDoorGFacts
namespace Go.Proofs.YtknbgnpeiohifaaGreatDoor.Abs
open Go.RowKit Tryz
open IntKind (i64 u32 u64 u8)
set_option linter.all false
set_option maxRecDepth 10000
theorem XP {nm:cB} {x1 x2 x3 x4 x5:V} {a1:cB} {q:Pa} {m:M} {P0:Pa} (w0:m.blk P0=some [.lit (.string (bs a1))]) :
  SC prog 138 [.agg [.lit (.string (bs nm)),x1,x2,x3,x4,x5],.ptr P0 0] q m (λv m'=>v=.lit (.bool (decide (nm=a1)))/\m'=m):=by
 refine SC.apart w0 λu0=>?_;refine wG func138 call138 ntmps138 results138 ?_;refine EL ?_;simp only [go_sem,Nat.reduceAdd,yV,Dh,true_and];refine EL ?_;simp only [go_sem,seval,DH,tX u0,w0];refine dI ?_;refine ⟨zd,?_⟩;simp only [go_sem,↓reduceIte,and_true,cJ,cN]
theorem ixf_vec (n:Nat) (a0:List aJ) (a1:cB) (r:Int) (h:fV n a0 a1=some r) (q:Pa) (m:M) (P0:Pa) (F fp S C:V) (x:aE) (w0:m.blk P0=some [.lit (.string (bs a1))]) (hk:fC F fp S C m.hp x) (hx:x.p_.bC=a0) :
  SC prog 137 [F,.fn (.func 138) [] [.ptr P0 0]] q m (λv m'=>v=.lit (.int .i64 r)/\m'=m):=by
 refine SC.apart w0 λu0=>?_;refine wG func137 call137 ntmps137 results137 ?_;unfold fV at h;have hS:xO F 6 a0.length:=by rw [←hx];exact fC.funcsR hk
 refine bW ?_;refine aR (EL ?_);simp only [go_sem,seval,hS.slen];refine dY ?_;obtain ⟨y3,hy3,h⟩:=aH h;refine zR (λc E' m'=>∃v2,cT a0 a1 c v2=some y3/\E' 0=F/\E' 1=.fn (.func 138) [] [.ptr P0 0]/\E' 7=.lit (.int .i64 (a0.length:Int))/\E' 8=.lit (.int .i64 v2)/\m'.blk P0=some ([.lit (.string (bs a1))])/\m'.gl=m.gl/\m'.hp=m.hp/\m.back q m'=m) n ⟨(0:Int),hy3,?_⟩ ?_
 ·simp only [go_sem,seval,and_true,cN,w0]
 rintro i1 c4 E5 m6 ⟨v2,hy3,e7⟩ _
 rcases c4 with _ | c4
 ·cases hy3
 rw [cT] at hy3;refine bW ?_;refine aR (gD hy3 (λc8 hy3=>?_) (λc8 hy3=>?_))
 ·refine dA ?_
  refine aR (dY (bW ?_));refine aR ?_;obtain ⟨x9,h14,hy3⟩:=aH hy3;obtain ⟨f11,f12,f13⟩:=bX h14;obtain ⟨x10,h15,hy3⟩:=aH hy3;obtain ⟨vv,bv,HF,fc⟩:=fC.foc hk (i:=v2.toNat) (f:=x9) (by rw [hx];exact f13);obtain ⟨rs,s0,s1,s2,s3,s4,s5,s6⟩:=fc.rows;have hvs:=fc.vars.shC;have h6:(6<=rs.length+1+1+1+1+1+1)=True:=eq_true zb;have hix:∀ {C:V->Prop},uC prog (.sl 36) F (.lit (.int .i64 v2)) C=C (.pp (tL F) (v2.toNat*6)):=xO.ix (P:=prog) (k:=.i64) hS SS f11 f12;refine dL λ_ z=>?_;simp only [go_sem,seval,yV,Dh,AE,Ri,true_and,SE,Uk,qB,e7,hix,fc.hF,s0,s6,h6,hvs.shr];have hd:x10=decide (x9.iE=a1):=(bS h15).symm;refine SC.bA (XP (nm:=x9.iE) (P0:=P0) (a1:=a1)) ?_;simp only [go_sem,Nat.reduceAdd];apply z;rw [←hd];refine gD hy3 (λc16 hy3=>?_) (λc16 hy3=>?_)
  ·refine bW ?_;refine dI ?_
   try simp only [eN,nE]
   obtain rfl:=bS hy3;simp only [Sum.elim_inr] at h;obtain rfl:=bS h;refine ⟨zd,?_⟩;simp only [go_sem,↓reduceIte,and_true,e7]
  ·refine dA ?_
   try simp only [aV,cR]
   refine oB ?_;refine ⟨c4,Rh _,(i64.wrap (v2+(1:Int))),hy3,?_⟩;simp only [go_sem,seval,and_true,e7]
 ·refine lM ?_
  try simp only [seval,eH,dN,aV,eH,dN]
  obtain rfl:=bS hy3;simp only [xed] at h;refine bW ?_;refine dI ?_;obtain rfl:=bS h;refine ⟨zd,?_⟩;simp only [go_sem,↓reduceIte,and_true,e7]
theorem Bn (n:Nat) (a0:bM) (a1:cB) (r:Int × Bool) (h:qX n a0 a1=some r) (q:Pa) (m:M) (vs:List V) (F fp S C:V) (x:aE) (hy:vs.map V.weak1=[.agg [F],.lit (.string (bs a1))]/\fC F fp S C m.hp x/\x.p_=a0) :
  SC prog 77 vs q m (λv m'=>v=.tup [.lit (.int .i64 r.1),.lit (.bool r.2)]/\m'=m):=by
 obtain ⟨hv,hk,hx⟩:=hy;refine SC.weak ?_;rw [hv];have hS:=fC.funcsR hk;refine wG func77 call77 ntmps77 results77 ?_;unfold qX at h
 have hraw:(F=.nilv/\F.raw0=.list .self []) ∨ F.raw0=F:=by
  rcases hS with ⟨hF,_⟩ | ⟨id,hF⟩
  ·exact .inl ⟨hF,by rw [hF];rfl⟩
  ·exact .inr (by rw [hF];rfl)
 rcases hraw with ⟨hF,hraw⟩ | hraw
 refine EL ?_;simp only [go_sem,seval,yV,Dh,true_and,hraw];refine zZ (id:=0::q) (off:=0) (cs:=[.list .self []]) (by simp only [go_sem,↓reduceIte,Nat.zero_ne_one,and_true,List.cons.injEq]) rfl ?_;refine Sd (λm1=>m1.blk (0::q)=some [F]/\m1.blk (1::q)=some [.lit (.string (bs a1))]/\m1.hp=m.hp/\m1.gl=m.gl/\m.back q m1=m) (by simp only [go_sem,↓reduceIte,and_true,Pw,hF,List.cons.injEq,Nat.succ_ne_self,cJ,cN]) ?_
 rotate_left
 refine EL ?_;simp only [go_sem,seval,yV,Dh,true_and,hraw];refine Sd (λm1=>m1.blk (0::q)=some [F]/\m1.blk (1::q)=some [.lit (.string (bs a1))]/\m1.hp=m.hp/\m1.gl=m.gl/\m.back q m1=m) (by simp only [go_sem,↓reduceIte,Nat.zero_ne_one,and_true,List.cons.injEq,cJ,cN]) ?_
 all_goals
  rintro m1 ⟨e0,e1,e2,e3,e4⟩;refine aR ?_;obtain ⟨x3,h4,h⟩:=aH h;refine dL λ_ z=>?_;simp only [go_sem,seval,yV,Dh,AE,Fu,DH,e0,hS.ld];refine SC.by_ (ixf_vec n a0.bC a1 _ h4 _ _ (1::q) F fp S C x e1 (by rw [e2];exact hk) (by rw [hx])) ?_;simp only [go_sem,seval];apply z;refine bW ?_;refine dI ?_;obtain rfl:=bS h;refine ⟨zd,?_⟩;simp only [go_sem,seval,yV,Dh,and_true,e4]
theorem JM (n:Nat) (a0:aJ) (r:Int) (h:wC n a0=some r) (q:Pa) (m:M) (vs:List V) (vv bv:V) (hy:vs.map V.weak1=[.agg (xF a0 vv bv)]/\iP m.hp vv 3 (a0.aQ.map aK.C)) :
  SC prog 82 vs q m (λv m'=>v=.lit (.int .i64 r)/\m'=m):=by
 obtain ⟨hv,hR⟩:=hy;refine SC.weak ?_;rw [hv];have hS:=hR.shC;refine wG func82 call82 ntmps82 results82 ?_;unfold wC at h;obtain ⟨⟨f2,f3⟩,h⟩:=cQ h;have hl:(a0.aQ.take a0.aT.toNat).length=a0.aT.toNat:=by rw [NL];omega
 have hRc:=iP.cutC hR f3;have hSc:xO (CS vv a0.aT.toNat) 3 (a0.aQ.take a0.aT.toNat).length:=hRc.shC;have hsl:∀ {C:V->Prop},SY prog (.sl 55) vv none (some (.lit (.int .i64 a0.aT))) C=C (CS vv a0.aT.toNat):=xO.slHi (P:=prog) (k:=.i64) hS Or f2 f3
 have hraw:(vv=.nilv/\vv.raw0=.list .self []) ∨ vv.raw0=vv:=by
  rcases hS with ⟨hF,_⟩ | ⟨id,hF⟩
  ·exact .inl ⟨hF,by rw [hF];rfl⟩
  ·exact .inr (by rw [hF];rfl)
 rcases hraw with ⟨hF,hraw⟩ | hraw
 refine EL ?_;simp only [go_sem,Nat.reduceAdd,yV,Dh,true_and,hraw];refine zZ (id:=0::q) (off:=4) (cs:=[.lit (.string (bs a0.iE)),.lit (.bool a0.eK),.lit (.int .i64 a0.bO),.lit (.int .i64 a0.aT),.list .self [],bv.raw0]) (by simp only [go_sem,↓reduceIte]) rfl ?_;refine Sd (λm1=>m1.blk (0::q)=some [.lit (.string (bs a0.iE)),.lit (.bool a0.eK),.lit (.int .i64 a0.bO),.lit (.int .i64 a0.aT),vv,bv.raw0]/\m1.hp=m.hp/\m1.gl=m.gl/\m.back q m1=m) (by simp only [go_sem,↓reduceIte,and_true,Pw,SD,hF,cJ,cN]) ?_
 rotate_left
 refine EL ?_;simp only [go_sem,Nat.reduceAdd,yV,Dh,true_and,hraw];refine Sd (λm1=>m1.blk (0::q)=some [.lit (.string (bs a0.iE)),.lit (.bool a0.eK),.lit (.int .i64 a0.bO),.lit (.int .i64 a0.aT),vv,bv.raw0]/\m1.hp=m.hp/\m1.gl=m.gl/\m.back q m1=m) (by simp only [go_sem,↓reduceIte,and_true,cJ,cN]) ?_
 all_goals
  rintro m1 ⟨e0,e2,e3,e4⟩;refine bW ?_;refine aR (EL ?_);simp only [go_sem,seval,PJ,Option.map_none,Sr,DH,e0,hS.ld,hsl,hSc.slen];refine dY ?_;obtain ⟨y7,hy7,h⟩:=aH h;refine zR (λc E' m'=>∃v5 v6,qA a0 c v5 v6=some y7/\E' 3=.lit (.int .i64 v5)/\E' 10=CS vv a0.aT.toNat/\E' 11=.lit (.int .i64 ((a0.aQ.take a0.aT.toNat).length:Int))/\E' 12=.lit (.int .i64 v6)/\m'.hp=m.hp/\m'.gl=m.gl/\m.back q m'=m) n ⟨(0:Int),(0:Int),hy7,?_⟩ ?_
  ·simp only [go_sem,seval,and_true,e2,e3,e4]
  rintro i4 c8 E9 m10 ⟨v5,v6,hy7,e11⟩ _
  rcases c8 with _ | c8
  ·cases hy7
  rw [qA] at hy7;refine bW ?_;refine aR (gD hy7 (λc12 hy7=>?_) (λc12 hy7=>?_))
  ·refine dA ?_
   refine aR ?_;obtain ⟨y13,hy13,hy7⟩:=aH hy7;refine Bq 17 (λE' m'=>E' 3=.lit (.int .i64 y13)/\E' 10=CS vv a0.aT.toNat/\E' 11=.lit (.int .i64 ((a0.aQ.take a0.aT.toNat).length:Int))/\E' 12=.lit (.int .i64 v6)/\m'.hp=m.hp/\m'.gl=m.gl/\m.back q m'=m) ?_ ?_
   ·refine dY (aR ?_);obtain ⟨x14,h19,hy13⟩:=aH hy13;obtain ⟨f16,f17,f18⟩:=bX h19;obtain ⟨HV,rest,s0,s1,s2,s3⟩:=iP.readVar hRc f18;have h3:(3<=rest.length+1+1+1)=True:=eq_true zb;have hix:∀ {C:V->Prop},uC prog (.sl 55) (CS vv a0.aT.toNat) (.lit (.int .i64 v6)) C=C (.pp (tL (CS vv a0.aT.toNat)) (v6.toNat*3)):=xO.ix (P:=prog) (k:=.i64) hSc Or f16 f17;refine dL λ_ z=>?_;simp only [go_sem,seval,yV,Dh,true_and,SE,Uk,Pw,SD,qB,sY,f17,e11,hix,s0,s1,h3];apply z;refine aR (EL ?_);simp only [go_sem,seval,Sr,DH];refine gD hy13 (λc20 hy13=>?_) (λc20 hy13=>?_)
    ·refine dL λ_ z=>?_;simp only [go_sem,seval,true_and,c20,(by decide:(2:Int) ≠ (0:Int)),e11];apply z;refine qC λ_ z=>?_;simp only [go_sem,seval];apply z;simp only [aV,cR];obtain rfl:=bS hy13;refine ⟨zc,?_⟩;simp only [go_sem,seval,and_true,cJ,e11]
    ·refine dA ?_
     refine qC λ_ z=>?_;simp only [go_sem,seval,c20,e11];apply z;simp only [aV,cR];obtain rfl:=bS hy13;refine ⟨zc,?_⟩;simp only [go_sem,seval,and_true,cJ,e11]
   ·intro E21 m22 e23 _;refine oB ?_;refine ⟨c8,Rh _,y13,(i64.wrap (v6+(1:Int))),hy7,?_⟩;simp only [go_sem,seval,and_true,e23]
  ·refine lM ?_
   try simp only [seval,eH,dN,aV,eH,dN]
   obtain rfl:=bS hy7;refine bW ?_;refine dI ?_;obtain rfl:=bS h;refine ⟨zd,?_⟩;simp only [go_sem,↓reduceIte,and_true,e11]
