/-
 Walks by hand: a program's function is found, and a function's words are counted, while they lie in the private heap.
-/
import Derived.Test.YtncembphlfbgoaaDoorCFH1
import Derived.Test.YtncembphlfbgoaaDoorCFFacts
namespace Go.Proofs.YtncembphlfbgoaaDoor.Abs
open Go.RowKit
set_option linter.unusedVariables false
set_option maxRecDepth 10000
theorem Ht {nm:cD} {x1 x2 x3 x4 x5:V} {a1:cD} {q:Pa} {m:M} {P0:Pa} (hmP0:m.blk P0=some [.lit (.string (bs a1))]) :
  SC Tryd.prog 16 [.agg [.lit (.string (bs nm)),x1,x2,x3,x4,x5],.ptr P0 0] q m (fun v m'=>v=.lit (.bool (decide (nm=a1)))/\m'=m):=by
 refine SC.apart hmP0 fun hpP0=>?_;refine eN Tryd.func16 rfl (fun xs w=>Tryd.call16 xs w) Tryd.ntmps16 (by kernel_rfl) Tryd.results16 ?_;refine aL fun _ z=>?_;simp only [go_sem,Nat.reduceAdd,List.map_cons,List.map_nil,true_and];apply z;refine aL fun _ z=>?_;simp only [go_sem,seval,List.drop_zero,cF hpP0,hmP0];apply z;refine aU ?_;refine ⟨by simp,?_⟩;simp only [go_sem,↓reduceIte,and_true,aQ,aK]
theorem ixf_vec (n:Nat) (a0:List aO) (a1:cD) (r:Int) (h:cH n a0 a1=some r) (q:Pa) (m:M) (P0:Pa) (F fp S C:V) (x:aD) (hmP0:m.blk P0=some [.lit (.string (bs a1))]) (hk:dJ F fp S C m.hp x) (hx:x.p_.aS=a0) :
  SC Tryd.prog 15 [F,.fn (.func 16) [] [.ptr P0 0]] q m (fun v m'=>v=.lit (.int .i64 r)/\m'=m):=by
 refine SC.apart hmP0 fun hpP0=>?_;refine eN Tryd.func15 rfl (fun xs w=>Tryd.call15 xs w) Tryd.ntmps15 (by kernel_rfl) Tryd.results15 ?_;unfold cH at h;have hS:oK F 6 a0.length:=by rw [←hx];exact dJ.funcsR hk
 refine aL fun _ z=>?_;simp only [go_sem];apply z;refine aI ?_;refine aL fun _ z=>?_;simp only [go_sem,seval,hS.slen];apply z;refine bK ?_;obtain ⟨y3,hy3,h⟩:=aC h;refine dE [] [] rfl (fun c E' m'=>∃v2,bA a0 a1 c v2=some y3/\E' 0=F/\E' 1=.fn (.func 16) [] [.ptr P0 0]/\E' 7=.lit (.int .i64 (a0.length:Int))/\E' 8=.lit (.int .i64 v2)/\m'.blk P0=some ([.lit (.string (bs a1))])/\m'.gl=m.gl/\m'.hp=m.hp/\m.back q m'=m) n ⟨(0:Int),hy3,?_⟩ ?_
 ·simp only [go_sem,seval,and_true,aK,hmP0]
 rintro i1 c4 E5 m6 ⟨v2,hy3,e7⟩ _
 rcases c4 with _ | c4
 ·exact absurd hy3 (by rw [bA];exact fun e=>nomatch e)
 rw [bA] at hy3;refine aL fun _ z=>?_;simp only [go_sem,e7];apply z;refine aI ?_;refine eK (decide (v2<(a0.length:Int))) (by simp only [go_sem,↓reduceIte]) (fun c8=>?_) (fun c8=>?_)
 ·replace hy3:=bC c8 hy3;refine bB ?_
  try simp only [aE]
  refine aI ?_;refine bK ?_;refine aL fun _ z=>?_;simp only [go_sem,seval,c8,e7];apply z;refine aI ?_;obtain ⟨x9,h14,hy3⟩:=aC hy3;obtain ⟨f11,f12,f13⟩:=bF h14;obtain ⟨x10,h15,hy3⟩:=aC hy3;obtain ⟨vv,bv,HF,fc⟩:=dJ.foc hk (i:=v2.toNat) (f:=x9) (by rw [hx];exact f13);obtain ⟨rs,s0,s1,s2,s3,s4,s5,s6⟩:=fc.rows;have hvs:=fc.vars.shC;have h6:(6<=rs.length+1+1+1+1+1+1)=True:=eq_true (by omega);have hix:∀ {C:V->Prop},mS Tryd.prog (.sl 35) F (.lit (.int .i64 v2)) C=C (.pp (lO F) (v2.toNat*6)):=oK.ix (P:=Tryd.prog) (k:=.i64) hS EZ f11 f12;refine aM fun _ z=>?_;simp only [go_sem,seval,List.map_cons,List.map_nil,List.nil_append,List.cons_append,true_and,List.take_succ_cons,List.take_zero,List.length_cons,e7,hix,fc.hF,s0,s6,h6,hvs.shr];have hd:x10=decide (x9.gI=a1):=(aJ h15).symm;refine SC.by_ (Ht (nm:=x9.gI) (P0:=P0) (a1:=a1) (by simp only [go_sem,e7])) ?_;simp only [go_sem,Nat.reduceAdd];apply z;rw [←hd];refine dA x10 (fun c16=>?_) (fun c16=>?_)
  ·replace hy3:=bC c16 hy3;refine aL fun _ z=>?_;simp only [go_sem,seval,c16];apply z;refine aU ?_
   try simp only [bE,bX]
   obtain rfl:=aJ hy3;simp only [Sum.elim_inr] at h;obtain rfl:=aJ h;refine ⟨by simp,?_⟩;simp only [go_sem,↓reduceIte,and_true,e7]
  ·replace hy3:=bD c16 hy3;refine bB ?_
   try simp only [aE,aT]
   refine aM fun _ z=>?_;simp only [go_sem,seval,c16,e7];apply z;refine ⟨c4,Nat.lt_succ_self _,(IntKind.i64.wrap (v2+(1:Int))),hy3,?_⟩;simp only [go_sem,seval,and_true,e7]
 ·replace hy3:=bD c8 hy3;refine eG ?_
  try simp only [seval,bZ,bQ,aE,bZ,bQ]
  obtain rfl:=aJ hy3;simp only [Sum.elim_inl] at h;refine aL fun _ z=>?_;simp only [go_sem,Nat.reduceAdd,c8];apply z;refine aU ?_;obtain rfl:=aJ h;refine ⟨by simp,?_⟩;simp only [go_sem,↓reduceIte,and_true,e7]
theorem qI (n:Nat) (a0:bV) (a1:cD) (r:Int × Bool) (h:eU n a0 a1=some r) (q:Pa) (m:M) (vs:List V) (F fp S C:V) (x:aD) (hy:vs.map V.weak1=[.agg [F],.lit (.string (bs a1))]/\dJ F fp S C m.hp x/\x.p_=a0) :
  SC Tryd.prog 6 vs q m (fun v m'=>v=.tup [.lit (.int .i64 r.1),.lit (.bool r.2)]/\m'=m):=by
 obtain ⟨hv,hk,hx⟩:=hy;refine SC.weak ?_;rw [hv];have hS:=dJ.funcsR hk;refine eN Tryd.func6 rfl (fun xs w=>Tryd.call6 xs w) Tryd.ntmps6 (by kernel_rfl) Tryd.results6 ?_;unfold eU at h
 have hraw:(F=.nilv/\F.raw0=.list .self []) ∨ F.raw0=F:=by
  rcases hS with ⟨hF,_⟩ | ⟨id,hF⟩
  ·exact .inl ⟨hF,by rw [hF];rfl⟩
  ·exact .inr (by rw [hF];rfl)
 rcases hraw with ⟨hF,hraw⟩ | hraw
 refine aL fun _ z=>?_;simp only [go_sem,seval,List.map_cons,List.map_nil,true_and,hraw];apply z;refine pD (id:=0::q) (off:=0) (cs:=[.list .self []]) (by simp only [go_sem,↓reduceIte,Nat.zero_ne_one,and_true,List.cons.injEq]) rfl ?_;refine DG (fun m1=>m1.blk (0::q)=some [F]/\m1.blk (1::q)=some [.lit (.string (bs a1))]/\m1.hp=m.hp/\m1.gl=m.gl/\m.back q m1=m) (by simp only [go_sem,↓reduceIte,and_true,List.set_cons_zero,hF,List.cons.injEq,Nat.succ_ne_self,aQ,aK]) ?_
 rotate_left
 refine aL fun _ z=>?_;simp only [go_sem,seval,List.map_cons,List.map_nil,true_and,hraw];apply z;refine DG (fun m1=>m1.blk (0::q)=some [F]/\m1.blk (1::q)=some [.lit (.string (bs a1))]/\m1.hp=m.hp/\m1.gl=m.gl/\m.back q m1=m) (by simp only [go_sem,↓reduceIte,Nat.zero_ne_one,and_true,List.cons.injEq,aQ,aK]) ?_
 all_goals
  rintro m1 ⟨e0,e1,e2,e3,e4⟩;refine aI ?_;obtain ⟨x3,h4,h⟩:=aC h;refine aM fun _ z=>?_;simp only [go_sem,seval,List.map_cons,List.map_nil,List.nil_append,List.append_nil,List.drop_zero,e0,hS.ld];refine SC.by_ (ixf_vec n a0.aS a1 _ h4 _ _ (1::q) F fp S C x e1 (by rw [e2];exact hk) (by rw [hx])) ?_;simp only [go_sem,seval];apply z;refine aL fun _ z=>?_;simp only [go_sem,seval];apply z;refine aU ?_;obtain rfl:=aJ h;refine ⟨by simp,?_⟩;simp only [go_sem,seval,List.map_cons,List.map_nil,and_true,e4]
theorem yU (n:Nat) (a0:aO) (r:Int) (h:gK n a0=some r) (q:Pa) (m:M) (vs:List V) (vv bv:V) (hy:vs.map V.weak1=[.agg (nP a0 vv bv)]/\eP m.hp vv 3 (a0.bR.map aY.C)) :
  SC Tryd.prog 8 vs q m (fun v m'=>v=.lit (.int .i64 r)/\m'=m):=by
 obtain ⟨hv,hR⟩:=hy;refine SC.weak ?_;rw [hv];have hS:=hR.shC;refine eN Tryd.func8 rfl (fun xs w=>Tryd.call8 xs w) Tryd.ntmps8 (by kernel_rfl) Tryd.results8 ?_;unfold gK at h;obtain ⟨⟨f2,f3⟩,h⟩:=cK h;have hl:(a0.bR.take a0.bI.toNat).length=a0.bI.toNat:=by rw [List.length_take];omega
 have hRc:=eP.cutC hR f3;have hSc:oK (rU vv a0.bI.toNat) 3 (a0.bR.take a0.bI.toNat).length:=hRc.shC;have hsl:∀ {C:V->Prop},Fb Tryd.prog (.sl 65) vv none (some (.lit (.int .i64 a0.bI))) C=C (rU vv a0.bI.toNat):=oK.slHi (P:=Tryd.prog) (k:=.i64) hS Cj f2 f3
 have hraw:(vv=.nilv/\vv.raw0=.list .self []) ∨ vv.raw0=vv:=by
  rcases hS with ⟨hF,_⟩ | ⟨id,hF⟩
  ·exact .inl ⟨hF,by rw [hF];rfl⟩
  ·exact .inr (by rw [hF];rfl)
 rcases hraw with ⟨hF,hraw⟩ | hraw
 refine aL fun _ z=>?_;simp only [go_sem,Nat.reduceAdd,List.map_cons,List.map_nil,true_and,hraw];apply z;refine pD (id:=0::q) (off:=4) (cs:=[.lit (.string (bs a0.gI)),.lit (.bool a0.eJ),.lit (.int .i64 a0.cR),.lit (.int .i64 a0.bI),.list .self [],bv.raw0]) (by simp only [go_sem,↓reduceIte]) rfl ?_;refine DG (fun m1=>m1.blk (0::q)=some [.lit (.string (bs a0.gI)),.lit (.bool a0.eJ),.lit (.int .i64 a0.cR),.lit (.int .i64 a0.bI),vv,bv.raw0]/\m1.hp=m.hp/\m1.gl=m.gl/\m.back q m1=m) (by simp only [go_sem,↓reduceIte,and_true,List.set_cons_zero,List.set_cons_succ,hF,aQ,aK]) ?_
 rotate_left
 refine aL fun _ z=>?_;simp only [go_sem,Nat.reduceAdd,List.map_cons,List.map_nil,true_and,hraw];apply z;refine DG (fun m1=>m1.blk (0::q)=some [.lit (.string (bs a0.gI)),.lit (.bool a0.eJ),.lit (.int .i64 a0.cR),.lit (.int .i64 a0.bI),vv,bv.raw0]/\m1.hp=m.hp/\m1.gl=m.gl/\m.back q m1=m) (by simp only [go_sem,↓reduceIte,and_true,aQ,aK]) ?_
 all_goals
  rintro m1 ⟨e0,e2,e3,e4⟩;refine aL fun _ z=>?_;simp only [go_sem,Nat.reduceAdd];apply z;refine aI ?_;refine aL fun _ z=>?_;simp only [go_sem,seval,Option.map_some,Option.map_none,List.drop_succ_cons,List.drop_zero,e0,hS.ld,hsl,hSc.slen];apply z;refine bK ?_;obtain ⟨y7,hy7,h⟩:=aC h;refine dE [] [] rfl (fun c E' m'=>∃v5 v6,eZ a0 c v5 v6=some y7/\E' 3=.lit (.int .i64 v5)/\E' 10=rU vv a0.bI.toNat/\E' 11=.lit (.int .i64 ((a0.bR.take a0.bI.toNat).length:Int))/\E' 12=.lit (.int .i64 v6)/\m'.hp=m.hp/\m'.gl=m.gl/\m.back q m'=m) n ⟨(0:Int),(0:Int),hy7,?_⟩ ?_
  ·simp only [go_sem,seval,and_true,e2,e3,e4]
  rintro i4 c8 E9 m10 ⟨v5,v6,hy7,e11⟩ _
  rcases c8 with _ | c8
  ·exact absurd hy7 (by rw [eZ];exact fun e=>nomatch e)
  rw [eZ] at hy7;refine aL fun _ z=>?_;simp only [go_sem,e11];apply z;refine aI ?_;refine eK (decide (v6<((a0.bR.take a0.bI.toNat).length:Int))) (by simp only [go_sem,↓reduceIte]) (fun c12=>?_) (fun c12=>?_)
  ·replace hy7:=bC c12 hy7;refine bB ?_
   try simp only [aE]
   refine aI ?_;obtain ⟨y13,hy13,hy7⟩:=aC hy7;refine cZ 17 [] [] rfl (fun E' m'=>E' 3=.lit (.int .i64 y13)/\E' 10=rU vv a0.bI.toNat/\E' 11=.lit (.int .i64 ((a0.bR.take a0.bI.toNat).length:Int))/\E' 12=.lit (.int .i64 v6)/\m'.hp=m.hp/\m'.gl=m.gl/\m.back q m'=m) ?_ ?_
   ·refine bK ?_;refine aI ?_;obtain ⟨x14,h19,hy13⟩:=aC hy13;obtain ⟨f16,f17,f18⟩:=bF h19;obtain ⟨HV,rest,s0,s1,s2,s3⟩:=eP.readVar hRc f18;have h3:(3<=rest.length+1+1+1)=True:=eq_true (by omega);have hix:∀ {C:V->Prop},mS Tryd.prog (.sl 65) (rU vv a0.bI.toNat) (.lit (.int .i64 v6)) C=C (.pp (lO (rU vv a0.bI.toNat)) (v6.toNat*3)):=oK.ix (P:=Tryd.prog) (k:=.i64) hSc Cj f16 f17;refine aM fun _ z=>?_;simp only [go_sem,seval,List.map_cons,List.map_nil,true_and,List.take_succ_cons,List.take_zero,List.set_cons_zero,List.set_cons_succ,List.length_cons,List.length_nil,f17,e11,hix,s0,s1,h3];apply z;refine aI ?_;refine aL fun _ z=>?_;simp only [go_sem,seval,List.drop_succ_cons,List.drop_zero];apply z;refine dA (x14.bN == (3:Int)) (fun c20=>?_) (fun c20=>?_)
    ·replace hy13:=bC c20 hy13;refine aM fun _ z=>?_;simp only [go_sem,seval,true_and,c20,(by decide:(2:Int) ≠ (0:Int)),e11];apply z;refine gF fun _ z=>?_;simp only [go_sem,seval];apply z;simp only [aE,aT];obtain rfl:=aJ hy13;refine ⟨by decide,?_⟩;simp only [go_sem,seval,and_true,aQ,e11]
    ·replace hy13:=bD c20 hy13;refine bB ?_
     try simp only [aE]
     refine gF fun _ z=>?_;simp only [go_sem,seval,c20,e11];apply z;simp only [aE,aT];obtain rfl:=aJ hy13;refine ⟨by decide,?_⟩;simp only [go_sem,seval,and_true,aQ,e11]
   ·intro E21 m22 e23 _;simp only [aE];refine aM fun _ z=>?_;simp only [go_sem,seval,e23];apply z;refine ⟨c8,Nat.lt_succ_self _,y13,(IntKind.i64.wrap (v6+(1:Int))),hy7,?_⟩;simp only [go_sem,seval,and_true,e23]
  ·replace hy7:=bD c12 hy7;refine eG ?_
   try simp only [seval,bZ,bQ,aE,bZ,bQ]
   obtain rfl:=aJ hy7;refine aL fun _ z=>?_;simp only [go_sem,seval,c12,e11];apply z;refine aU ?_;obtain rfl:=aJ h;refine ⟨by simp,?_⟩;simp only [go_sem,↓reduceIte,and_true,e11]
end Go.Proofs.YtncembphlfbgoaaDoor.Abs
