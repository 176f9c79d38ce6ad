import Derived.Test.YtnheknbibdgglaaGreatDoorMH1
import Derived.Test.YtnheknbibdgglaaGreatDoorMFacts
namespace Go.Proofs.YtnheknbibdgglaaGreatDoor.Abs
open Go.RowKit Tryz
open IntKind (i64 u32 u64 u8)
set_option linter.all false
set_option maxRecDepth 10000
theorem Sd {nm:cQ} {x1 x2 x3 x4 x5:V} {a1:cQ} {q:Pa} {m:M} {P0:Pa} (w0:m.blk P0=some [.lit (.string (bs a1))]) :
  SC prog 87 [.agg [.lit (.string (bs nm)),x1,x2,x3,x4,x5],.ptr P0 0] q m (λv m'=>v=.lit (.bool (decide (nm=a1)))/\m'=m):=by
 refine SC.apart w0 λu0=>?_;refine oE func87 call87 ntmps87 results87 ?_;refine xN ?_;simp only [go_sem,Nat.reduceAdd,oC,qA,true_and];refine xN ?_;simp only [go_sem,seval,sR,lR u0,w0];refine cB ?_;refine ⟨zc,?_⟩;simp only [go_sem,↓reduceIte,and_true,bB,bG]
theorem ixf_vec (n:Nat) (a0:List aP) (a1:cQ) (r:Int) (h:fR n a0 a1=some r) (q:Pa) (m:M) (P0:Pa) (F fp S C:V) (x:aG) (w0:m.blk P0=some [.lit (.string (bs a1))]) (hk:fA F fp S C m.hp x) (hx:x.p_.aU=a0) :
  SC prog 86 [F,.fn (.func 87) [] [.ptr P0 0]] q m (λv m'=>v=.lit (.int .i64 r)/\m'=m):=by
 refine SC.apart w0 λu0=>?_;refine oE func86 call86 ntmps86 results86 ?_;unfold fR at h;have hS:tV F 6 a0.length:=by rw [←hx];exact fA.funcsR hk
 refine bC ?_;refine aN (xN ?_);simp only [go_sem,seval,hS.slen];refine cK ?_;obtain ⟨y3,hy3,h⟩:=aD h;refine rG (λc E' m'=>∃v2,cW a0 a1 c v2=some y3/\E' 0=F/\E' 1=.fn (.func 87) [] [.ptr P0 0]/\E' 7=.lit (.int .i64 (a0.length:Int))/\E' 8=.lit (.int .i64 v2)/\m'.blk P0=some ([.lit (.string (bs a1))])/\m'.gl=m.gl/\m'.hp=m.hp/\m.back q m'=m) n ⟨(0:Int),hy3,?_⟩ ?_
 ·simp only [go_sem,seval,and_true,bG,w0]
 rintro i1 c4 E5 m6 ⟨v2,hy3,e7⟩ _
 rcases c4 with _ | c4
 ·cases hy3
 rw [cW] at hy3;refine bC ?_;refine aN (cY hy3 (λc8 hy3=>?_) (λc8 hy3=>?_))
 ·refine bL ?_
  refine aN (cK (bC ?_));refine aN ?_;obtain ⟨x9,h14,hy3⟩:=aD hy3;obtain ⟨f11,f12,f13⟩:=aY h14;obtain ⟨x10,h15,hy3⟩:=aD hy3;obtain ⟨vv,bv,HF,fc⟩:=fA.foc hk (i:=v2.toNat) (f:=x9) (by rw [hx];exact f13);obtain ⟨rs,s0,s1,s2,s3,s4,s5,s6⟩:=fc.rows;have hvs:=fc.vars.shC;have h6:(6<=rs.length+1+1+1+1+1+1)=True:=eq_true za;have hix:∀ {C:V->Prop},sI prog (.sl 27) F (.lit (.int .i64 v2)) C=C (.pp (qI F) (v2.toNat*6)):=tV.ix (P:=prog) (k:=.i64) hS MY f11 f12;refine bX λ_ z=>?_;simp only [go_sem,seval,oC,qA,wN,EP,true_and,Gq,Gp,jJ,e7,hix,fc.hF,s0,s6,h6,hvs.shr];have hd:x10=decide (x9.gS=a1):=(aZ h15).symm;refine SC.bA (Sd (nm:=x9.gS) (P0:=P0) (a1:=a1)) ?_;simp only [go_sem,Nat.reduceAdd];apply z;rw [←hd];refine cY hy3 (λc16 hy3=>?_) (λc16 hy3=>?_)
  ·refine bC ?_;refine cB ?_
   try simp only [cE,gP]
   obtain rfl:=aZ hy3;simp only [PQ] at h;obtain rfl:=aZ h;refine ⟨zc,?_⟩;simp only [go_sem,↓reduceIte,and_true,e7]
  ·refine bL ?_
   try simp only [aR,bJ]
   refine dY ?_;refine ⟨c4,EO _,(i64.wrap (v2+(1:Int))),hy3,?_⟩;simp only [go_sem,seval,and_true,e7]
 ·refine gE ?_
  try simp only [seval,cV,cM,aR,cV,cM]
  obtain rfl:=aZ hy3;simp only [SP] at h;refine bC ?_;refine cB ?_;obtain rfl:=aZ h;refine ⟨zc,?_⟩;simp only [go_sem,↓reduceIte,and_true,e7]
theorem xM (n:Nat) (a0:aK) (a1:cQ) (r:Int × Bool) (h:oU n a0 a1=some r) (q:Pa) (m:M) (vs:List V) (F fp S C:V) (x:aG) (hy:vs.map V.weak1=[.agg [F],.lit (.string (bs a1))]/\fA F fp S C m.hp x/\x.p_=a0) :
  SC prog 53 vs q m (λv m'=>v=.tup [.lit (.int .i64 r.1),.lit (.bool r.2)]/\m'=m):=by
 obtain ⟨hv,hk,hx⟩:=hy;refine SC.weak ?_;rw [hv];have hS:=fA.funcsR hk;refine oE func53 call53 ntmps53 results53 ?_;unfold oU at h
 have hraw:(F=.nilv/\F.raw0=.list .self []) ∨ F.raw0=F:=by
  rcases hS with ⟨hF,_⟩ | ⟨id,hF⟩
  ·exact .inl ⟨hF,by rw [hF];rfl⟩
  ·exact .inr (by rw [hF];rfl)
 rcases hraw with ⟨hF,hraw⟩ | hraw
 refine xN ?_;simp only [go_sem,seval,oC,qA,true_and,hraw];refine vN (id:=0::q) (off:=0) (cs:=[.list .self []]) (by simp only [go_sem,↓reduceIte,xdw,and_true,List.cons.injEq]) rfl ?_;refine MA (λm1=>m1.blk (0::q)=some [F]/\m1.blk (1::q)=some [.lit (.string (bs a1))]/\m1.hp=m.hp/\m1.gl=m.gl/\m.back q m1=m) (by simp only [go_sem,↓reduceIte,and_true,GD,hF,List.cons.injEq,Nat.succ_ne_self,bB,bG]) ?_
 rotate_left
 refine xN ?_;simp only [go_sem,seval,oC,qA,true_and,hraw];refine MA (λm1=>m1.blk (0::q)=some [F]/\m1.blk (1::q)=some [.lit (.string (bs a1))]/\m1.hp=m.hp/\m1.gl=m.gl/\m.back q m1=m) (by simp only [go_sem,↓reduceIte,xdw,and_true,List.cons.injEq,bB,bG]) ?_
 all_goals
  rintro m1 ⟨e0,e1,e2,e3,e4⟩;refine aN ?_;obtain ⟨x3,h4,h⟩:=aD h;refine bX λ_ z=>?_;simp only [go_sem,seval,oC,qA,wN,ER,sR,e0,hS.ld];refine SC.by_ (ixf_vec n a0.aU a1 _ h4 _ _ (1::q) F fp S C x e1 (by rw [e2];exact hk) (by rw [hx])) ?_;simp only [go_sem,seval];apply z;refine bC ?_;refine cB ?_;obtain rfl:=aZ h;refine ⟨zc,?_⟩;simp only [go_sem,seval,oC,qA,and_true,e4]
theorem Fz (n:Nat) (a0:aP) (r:Int) (h:sO n a0=some r) (q:Pa) (m:M) (vs:List V) (vv bv:V) (hy:vs.map V.weak1=[.agg (tN a0 vv bv)]/\iF m.hp vv 3 (a0.aO.map aJ.C)) :
  SC prog 58 vs q m (λv m'=>v=.lit (.int .i64 r)/\m'=m):=by
 obtain ⟨hv,hR⟩:=hy;refine SC.weak ?_;rw [hv];have hS:=hR.shC;refine oE func58 call58 ntmps58 results58 ?_;unfold sO at h;obtain ⟨⟨f2,f3⟩,h⟩:=bN h;have hl:(a0.aO.take a0.aQ.toNat).length=a0.aQ.toNat:=by rw [EC];omega
 have hRc:=iF.cutC hR f3;have hSc:tV (zP vv a0.aQ.toNat) 3 (a0.aO.take a0.aQ.toNat).length:=hRc.shC;have hsl:∀ {C:V->Prop},OJ prog (.sl 47) vv none (some (.lit (.int .i64 a0.aQ))) C=C (zP vv a0.aQ.toNat):=tV.slHi (P:=prog) (k:=.i64) hS Jl f2 f3
 have hraw:(vv=.nilv/\vv.raw0=.list .self []) ∨ vv.raw0=vv:=by
  rcases hS with ⟨hF,_⟩ | ⟨id,hF⟩
  ·exact .inl ⟨hF,by rw [hF];rfl⟩
  ·exact .inr (by rw [hF];rfl)
 rcases hraw with ⟨hF,hraw⟩ | hraw
 refine xN ?_;simp only [go_sem,Nat.reduceAdd,oC,qA,true_and,hraw];refine vN (id:=0::q) (off:=4) (cs:=[.lit (.string (bs a0.gS)),.lit (.bool a0.eC),.lit (.int .i64 a0.bV),.lit (.int .i64 a0.aQ),.list .self [],bv.raw0]) (by simp only [go_sem,↓reduceIte]) rfl ?_;refine MA (λm1=>m1.blk (0::q)=some [.lit (.string (bs a0.gS)),.lit (.bool a0.eC),.lit (.int .i64 a0.bV),.lit (.int .i64 a0.aQ),vv,bv.raw0]/\m1.hp=m.hp/\m1.gl=m.gl/\m.back q m1=m) (by simp only [go_sem,↓reduceIte,and_true,GD,Ii,hF,bB,bG]) ?_
 rotate_left
 refine xN ?_;simp only [go_sem,Nat.reduceAdd,oC,qA,true_and,hraw];refine MA (λm1=>m1.blk (0::q)=some [.lit (.string (bs a0.gS)),.lit (.bool a0.eC),.lit (.int .i64 a0.bV),.lit (.int .i64 a0.aQ),vv,bv.raw0]/\m1.hp=m.hp/\m1.gl=m.gl/\m.back q m1=m) (by simp only [go_sem,↓reduceIte,and_true,bB,bG]) ?_
 all_goals
  rintro m1 ⟨e0,e2,e3,e4⟩;refine bC ?_;refine aN (xN ?_);simp only [go_sem,seval,FI,xej,Bu,sR,e0,hS.ld,hsl,hSc.slen];refine cK ?_;obtain ⟨y7,hy7,h⟩:=aD h;refine rG (λc E' m'=>∃v5 v6,oA a0 c v5 v6=some y7/\E' 3=.lit (.int .i64 v5)/\E' 10=zP vv a0.aQ.toNat/\E' 11=.lit (.int .i64 ((a0.aO.take a0.aQ.toNat).length:Int))/\E' 12=.lit (.int .i64 v6)/\m'.hp=m.hp/\m'.gl=m.gl/\m.back q m'=m) n ⟨(0:Int),(0:Int),hy7,?_⟩ ?_
  ·simp only [go_sem,seval,and_true,e2,e3,e4]
  rintro i4 c8 E9 m10 ⟨v5,v6,hy7,e11⟩ _
  rcases c8 with _ | c8
  ·cases hy7
  rw [oA] at hy7;refine bC ?_;refine aN (cY hy7 (λc12 hy7=>?_) (λc12 hy7=>?_))
  ·refine bL ?_
   refine aN ?_;obtain ⟨y13,hy13,hy7⟩:=aD hy7;refine rE 17 (λE' m'=>E' 3=.lit (.int .i64 y13)/\E' 10=zP vv a0.aQ.toNat/\E' 11=.lit (.int .i64 ((a0.aO.take a0.aQ.toNat).length:Int))/\E' 12=.lit (.int .i64 v6)/\m'.hp=m.hp/\m'.gl=m.gl/\m.back q m'=m) ?_ ?_
   ·refine cK (aN ?_);obtain ⟨x14,h19,hy13⟩:=aD hy13;obtain ⟨f16,f17,f18⟩:=aY h19;obtain ⟨HV,rest,s0,s1,s2,s3⟩:=iF.readVar hRc f18;have h3:(3<=rest.length+1+1+1)=True:=eq_true za;have hix:∀ {C:V->Prop},sI prog (.sl 47) (zP vv a0.aQ.toNat) (.lit (.int .i64 v6)) C=C (.pp (qI (zP vv a0.aQ.toNat)) (v6.toNat*3)):=tV.ix (P:=prog) (k:=.i64) hSc Jl f16 f17;refine bX λ_ z=>?_;simp only [go_sem,seval,oC,qA,true_and,Gq,Gp,GD,Ii,jJ,mO,f17,e11,hix,s0,s1,h3];apply z;refine aN (xN ?_);simp only [go_sem,seval,Bu,sR];refine cY hy13 (λc20 hy13=>?_) (λc20 hy13=>?_)
    ·refine bX λ_ z=>?_;simp only [go_sem,seval,true_and,c20,(by decide:(2:Int) ≠ (0:Int)),e11];apply z;refine kM λ_ z=>?_;simp only [go_sem,seval];apply z;simp only [aR,bJ];obtain rfl:=aZ hy13;refine ⟨zb,?_⟩;simp only [go_sem,seval,and_true,bB,e11]
    ·refine bL ?_
     refine kM λ_ z=>?_;simp only [go_sem,seval,c20,e11];apply z;simp only [aR,bJ];obtain rfl:=aZ hy13;refine ⟨zb,?_⟩;simp only [go_sem,seval,and_true,bB,e11]
   ·intro E21 m22 e23 _;refine dY ?_;refine ⟨c8,EO _,y13,(i64.wrap (v6+(1:Int))),hy7,?_⟩;simp only [go_sem,seval,and_true,e23]
  ·refine gE ?_
   try simp only [seval,cV,cM,aR,cV,cM]
   obtain rfl:=aZ hy7;refine bC ?_;refine cB ?_;obtain rfl:=aZ h;refine ⟨zc,?_⟩;simp only [go_sem,↓reduceIte,and_true,e11]
