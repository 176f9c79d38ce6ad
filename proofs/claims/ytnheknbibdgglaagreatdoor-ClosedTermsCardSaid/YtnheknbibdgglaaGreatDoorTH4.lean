import Derived.Test.YtnheknbibdgglaaGreatDoorTH1
import Derived.Test.YtnheknbibdgglaaGreatDoorTFacts
namespace Go.Proofs.YtnheknbibdgglaaGreatDoor.Abs
open Go.RowKit Tryz
open IntKind (i64 u32 u64 u8)
set_option linter.all false
set_option maxRecDepth 10000
theorem Tk {nm:bW} {x1 x2 x3 x4 x5:V} {a1:bW} {q:Pa} {m:M} {P0:Pa} (w0:m.blk P0=some [.lit (.string (bs a1))]) :
  SC prog 87 [.agg [.lit (.string (bs nm)),x1,x2,x3,x4,x5],.ptr P0 0] q m (λv m'=>v=.lit (.bool (decide (nm=a1)))/\m'=m):=by
 refine SC.apart w0 λu0=>?_;refine sS func87 call87 ntmps87 results87 ?_;refine yV ?_;simp only [go_sem,Nat.reduceAdd,xK,Dg,true_and];refine yV ?_;simp only [go_sem,seval,Ct,rP u0,w0];refine cD ?_;refine ⟨by simp,?_⟩;simp only [go_sem,↓reduceIte,and_true,bT,bV]
theorem ixf_vec (n:Nat) (a0:List aQ) (a1:bW) (r:Int) (h:fH n a0 a1=some r) (q:Pa) (m:M) (P0:Pa) (F fp S C:V) (x:aE) (w0:m.blk P0=some [.lit (.string (bs a1))]) (hk:eO F fp S C m.hp x) (hx:x.p_.aV=a0) :
  SC prog 86 [F,.fn (.func 87) [] [.ptr P0 0]] q m (λv m'=>v=.lit (.int .i64 r)/\m'=m):=by
 refine SC.apart w0 λu0=>?_;refine sS func86 call86 ntmps86 results86 ?_;unfold fH at h;have hS:uM F 6 a0.length:=by rw [←hx];exact eO.funcsR hk
 refine bL ?_;refine aO (yV ?_);simp only [go_sem,seval,hS.slen];refine cU ?_;obtain ⟨y3,hy3,h⟩:=aF h;refine tQ (λc E' m'=>∃v2,cH a0 a1 c v2=some y3/\E' 0=F/\E' 1=.fn (.func 87) [] [.ptr P0 0]/\E' 7=.lit (.int .i64 (a0.length:Int))/\E' 8=.lit (.int .i64 v2)/\m'.blk P0=some ([.lit (.string (bs a1))])/\m'.gl=m.gl/\m'.hp=m.hp/\m.back q m'=m) n ⟨(0:Int),hy3,?_⟩ ?_
 ·simp only [go_sem,seval,and_true,bV,w0]
 rintro i1 c4 E5 m6 ⟨v2,hy3,e7⟩ _
 rcases c4 with _ | c4
 ·cases hy3
 rw [cH] at hy3;refine bL ?_;refine aO (dI hy3 (λc8 hy3=>?_) (λc8 hy3=>?_))
 ·refine bP ?_
  refine aO (cU (bL ?_));refine aO ?_;obtain ⟨x9,h14,hy3⟩:=aF hy3;obtain ⟨f11,f12,f13⟩:=bI h14;obtain ⟨x10,h15,hy3⟩:=aF hy3;obtain ⟨vv,bv,HF,fc⟩:=eO.foc hk (i:=v2.toNat) (f:=x9) (by rw [hx];exact f13);obtain ⟨rs,s0,s1,s2,s3,s4,s5,s6⟩:=fc.rows;have hvs:=fc.vars.shC;have h6:(6<=rs.length+1+1+1+1+1+1)=True:=eq_true (by omega);have hix:∀ {C:V->Prop},rU prog (.sl 27) F (.lit (.int .i64 v2)) C=C (.pp (rA F) (v2.toNat*6)):=uM.ix (P:=prog) (k:=.i64) hS Oa f11 f12;refine dD λ_ z=>?_;simp only [go_sem,seval,xK,Dg,Dh,LV,true_and,QZ,Sf,pX,e7,hix,fc.hF,s0,s6,h6,hvs.shr];have hd:x10=decide (x9.gP=a1):=(aU h15).symm;refine SC.bA (Tk (nm:=x9.gP) (P0:=P0) (a1:=a1)) ?_;simp only [go_sem,Nat.reduceAdd];apply z;rw [←hd];refine dI hy3 (λc16 hy3=>?_) (λc16 hy3=>?_)
  ·refine bL ?_;refine cD ?_
   try simp only [cM,iT]
   obtain rfl:=aU hy3;simp only [Pu] at h;obtain rfl:=aU h;refine ⟨by simp,?_⟩;simp only [go_sem,↓reduceIte,and_true,e7]
  ·refine bP ?_
   try simp only [aK,bU]
   refine lP ?_;refine ⟨c4,JO _,(i64.wrap (v2+(1:Int))),hy3,?_⟩;simp only [go_sem,seval,and_true,e7]
 ·refine jJ ?_
  try simp only [seval,dB,cP,aK,dB,cP]
  obtain rfl:=aU hy3;simp only [xdn] at h;refine bL ?_;refine cD ?_;obtain rfl:=aU h;refine ⟨by simp,?_⟩;simp only [go_sem,↓reduceIte,and_true,e7]
theorem yR (n:Nat) (a0:aW) (a1:bW) (r:Int × Bool) (h:pM n a0 a1=some r) (q:Pa) (m:M) (vs:List V) (F fp S C:V) (x:aE) (hy:vs.map V.weak1=[.agg [F],.lit (.string (bs a1))]/\eO F fp S C m.hp x/\x.p_=a0) :
  SC prog 53 vs q m (λv m'=>v=.tup [.lit (.int .i64 r.1),.lit (.bool r.2)]/\m'=m):=by
 obtain ⟨hv,hk,hx⟩:=hy;refine SC.weak ?_;rw [hv];have hS:=eO.funcsR hk;refine sS func53 call53 ntmps53 results53 ?_;unfold pM at h
 have hraw:(F=.nilv/\F.raw0=.list .self []) ∨ F.raw0=F:=by
  rcases hS with ⟨hF,_⟩ | ⟨id,hF⟩
  ·exact .inl ⟨hF,by rw [hF];rfl⟩
  ·exact .inr (by rw [hF];rfl)
 rcases hraw with ⟨hF,hraw⟩ | hraw
 refine yV ?_;simp only [go_sem,seval,xK,Dg,true_and,hraw];refine wF (id:=0::q) (off:=0) (cs:=[.list .self []]) (by simp only [go_sem,↓reduceIte,Nat.zero_ne_one,and_true,List.cons.injEq]) rfl ?_;refine Nw (λm1=>m1.blk (0::q)=some [F]/\m1.blk (1::q)=some [.lit (.string (bs a1))]/\m1.hp=m.hp/\m1.gl=m.gl/\m.back q m1=m) (by simp only [go_sem,↓reduceIte,and_true,Px,hF,List.cons.injEq,Nat.succ_ne_self,bT,bV]) ?_
 rotate_left
 refine yV ?_;simp only [go_sem,seval,xK,Dg,true_and,hraw];refine Nw (λm1=>m1.blk (0::q)=some [F]/\m1.blk (1::q)=some [.lit (.string (bs a1))]/\m1.hp=m.hp/\m1.gl=m.gl/\m.back q m1=m) (by simp only [go_sem,↓reduceIte,Nat.zero_ne_one,and_true,List.cons.injEq,bT,bV]) ?_
 all_goals
  rintro m1 ⟨e0,e1,e2,e3,e4⟩;refine aO ?_;obtain ⟨x3,h4,h⟩:=aF h;refine dD λ_ z=>?_;simp only [go_sem,seval,xK,Dg,Dh,Ga,Ct,e0,hS.ld];refine SC.by_ (ixf_vec n a0.aV a1 _ h4 _ _ (1::q) F fp S C x e1 (by rw [e2];exact hk) (by rw [hx])) ?_;simp only [go_sem,seval];apply z;refine bL ?_;refine cD ?_;obtain rfl:=aU h;refine ⟨by simp,?_⟩;simp only [go_sem,seval,xK,Dg,and_true,e4]
theorem GL (n:Nat) (a0:aQ) (r:Int) (h:tH n a0=some r) (q:Pa) (m:M) (vs:List V) (vv bv:V) (hy:vs.map V.weak1=[.agg (uF a0 vv bv)]/\iC m.hp vv 3 (a0.aR.map aJ.C)) :
  SC prog 58 vs q m (λv m'=>v=.lit (.int .i64 r)/\m'=m):=by
 obtain ⟨hv,hR⟩:=hy;refine SC.weak ?_;rw [hv];have hS:=hR.shC;refine sS func58 call58 ntmps58 results58 ?_;unfold tH at h;obtain ⟨⟨f2,f3⟩,h⟩:=bY h;have hl:(a0.aR.take a0.aT.toNat).length=a0.aT.toNat:=by rw [JQ];omega
 have hRc:=iC.cutC hR f3;have hSc:uM (AK vv a0.aT.toNat) 3 (a0.aR.take a0.aT.toNat).length:=hRc.shC;have hsl:∀ {C:V->Prop},PX prog (.sl 47) vv none (some (.lit (.int .i64 a0.aT))) C=C (AK vv a0.aT.toNat):=uM.slHi (P:=prog) (k:=.i64) hS Kv f2 f3
 have hraw:(vv=.nilv/\vv.raw0=.list .self []) ∨ vv.raw0=vv:=by
  rcases hS with ⟨hF,_⟩ | ⟨id,hF⟩
  ·exact .inl ⟨hF,by rw [hF];rfl⟩
  ·exact .inr (by rw [hF];rfl)
 rcases hraw with ⟨hF,hraw⟩ | hraw
 refine yV ?_;simp only [go_sem,Nat.reduceAdd,xK,Dg,true_and,hraw];refine wF (id:=0::q) (off:=4) (cs:=[.lit (.string (bs a0.gP)),.lit (.bool a0.dU),.lit (.int .i64 a0.bN),.lit (.int .i64 a0.aT),.list .self [],bv.raw0]) (by simp only [go_sem,↓reduceIte]) rfl ?_;refine Nw (λm1=>m1.blk (0::q)=some [.lit (.string (bs a0.gP)),.lit (.bool a0.dU),.lit (.int .i64 a0.bN),.lit (.int .i64 a0.aT),vv,bv.raw0]/\m1.hp=m.hp/\m1.gl=m.gl/\m.back q m1=m) (by simp only [go_sem,↓reduceIte,and_true,Px,Ug,hF,bT,bV]) ?_
 rotate_left
 refine yV ?_;simp only [go_sem,Nat.reduceAdd,xK,Dg,true_and,hraw];refine Nw (λm1=>m1.blk (0::q)=some [.lit (.string (bs a0.gP)),.lit (.bool a0.dU),.lit (.int .i64 a0.bN),.lit (.int .i64 a0.aT),vv,bv.raw0]/\m1.hp=m.hp/\m1.gl=m.gl/\m.back q m1=m) (by simp only [go_sem,↓reduceIte,and_true,bT,bV]) ?_
 all_goals
  rintro m1 ⟨e0,e2,e3,e4⟩;refine bL ?_;refine aO (yV ?_);simp only [go_sem,seval,NG,Option.map_none,NR,Ct,e0,hS.ld,hsl,hSc.slen];refine cU ?_;obtain ⟨y7,hy7,h⟩:=aF h;refine tQ (λc E' m'=>∃v5 v6,oN a0 c v5 v6=some y7/\E' 3=.lit (.int .i64 v5)/\E' 10=AK vv a0.aT.toNat/\E' 11=.lit (.int .i64 ((a0.aR.take a0.aT.toNat).length:Int))/\E' 12=.lit (.int .i64 v6)/\m'.hp=m.hp/\m'.gl=m.gl/\m.back q m'=m) n ⟨(0:Int),(0:Int),hy7,?_⟩ ?_
  ·simp only [go_sem,seval,and_true,e2,e3,e4]
  rintro i4 c8 E9 m10 ⟨v5,v6,hy7,e11⟩ _
  rcases c8 with _ | c8
  ·cases hy7
  rw [oN] at hy7;refine bL ?_;refine aO (dI hy7 (λc12 hy7=>?_) (λc12 hy7=>?_))
  ·refine bP ?_
   refine aO ?_;obtain ⟨y13,hy13,hy7⟩:=aF hy7;refine tK 17 (λE' m'=>E' 3=.lit (.int .i64 y13)/\E' 10=AK vv a0.aT.toNat/\E' 11=.lit (.int .i64 ((a0.aR.take a0.aT.toNat).length:Int))/\E' 12=.lit (.int .i64 v6)/\m'.hp=m.hp/\m'.gl=m.gl/\m.back q m'=m) ?_ ?_
   ·refine cU (aO ?_);obtain ⟨x14,h19,hy13⟩:=aF hy13;obtain ⟨f16,f17,f18⟩:=bI h19;obtain ⟨HV,rest,s0,s1,s2,s3⟩:=iC.readVar hRc f18;have h3:(3<=rest.length+1+1+1)=True:=eq_true (by omega);have hix:∀ {C:V->Prop},rU prog (.sl 47) (AK vv a0.aT.toNat) (.lit (.int .i64 v6)) C=C (.pp (rA (AK vv a0.aT.toNat)) (v6.toNat*3)):=uM.ix (P:=prog) (k:=.i64) hSc Kv f16 f17;refine dD λ_ z=>?_;simp only [go_sem,seval,xK,Dg,true_and,QZ,Sf,Px,Ug,pX,sY,f17,e11,hix,s0,s1,h3];apply z;refine aO (yV ?_);simp only [go_sem,seval,NR,Ct];refine dI hy13 (λc20 hy13=>?_) (λc20 hy13=>?_)
    ·refine dD λ_ z=>?_;simp only [go_sem,seval,true_and,c20,(by decide:(2:Int) ≠ (0:Int)),e11];apply z;refine cX λ_ z=>?_;simp only [go_sem,seval];apply z;simp only [aK,bU];obtain rfl:=aU hy13;refine ⟨by decide,?_⟩;simp only [go_sem,seval,and_true,bT,e11]
    ·refine bP ?_
     refine cX λ_ z=>?_;simp only [go_sem,seval,c20,e11];apply z;simp only [aK,bU];obtain rfl:=aU hy13;refine ⟨by decide,?_⟩;simp only [go_sem,seval,and_true,bT,e11]
   ·intro E21 m22 e23 _;refine lP ?_;refine ⟨c8,JO _,y13,(i64.wrap (v6+(1:Int))),hy7,?_⟩;simp only [go_sem,seval,and_true,e23]
  ·refine jJ ?_
   try simp only [seval,dB,cP,aK,dB,cP]
   obtain rfl:=aU hy7;refine bL ?_;refine cD ?_;obtain rfl:=aU h;refine ⟨by simp,?_⟩;simp only [go_sem,↓reduceIte,and_true,e11]
