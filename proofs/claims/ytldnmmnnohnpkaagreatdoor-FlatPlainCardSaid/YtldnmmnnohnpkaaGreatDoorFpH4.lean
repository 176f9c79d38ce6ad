/-
 Walks by hand: a program's function is found, and a function's words are counted, while they lie in the private heap.
-/
import Derived.Test.YtldnmmnnohnpkaaGreatDoorFpH1
import Derived.Test.YtldnmmnnohnpkaaGreatDoorFpFacts
namespace Go.Proofs.YtldnmmnnohnpkaaGreatDoor.Abs
open Go.RowKit
set_option linter.unusedVariables false
set_option maxRecDepth 10000
theorem zqq {nm:Str} {x1 x2 x3 x4 x5:V} {a1:Str} {q:Pa} {m:M} {P0:Pa} (hmP0:m.blk P0=some [.lit (.string (bs a1))]) :
  SC Tryz.prog 46 [.agg [.lit (.string (bs nm)),x1,x2,x3,x4,x5],.ptr P0 0] q m (fun v m'=>v=.lit (.bool (decide (nm=a1)))/\m'=m):=by
 refine SC.apart hmP0 fun hpP0=>?_;refine SC_w Tryz.func46 rfl (fun xs w=>Tryz.call46 xs w) Tryz.ntmps46 (by kernel_rfl) Tryz.results46 ?_;refine zao fun _ z=>?_;simp only [go_sem,Nat.reduceAdd,List.map_cons,List.map_nil,true_and];apply z;refine zao fun _ z=>?_;simp only [go_sem,seval,List.drop_zero,pz1 hpP0,hmP0];apply z;refine zaw ?_;refine ⟨by simp,?_⟩;simp only [go_sem,↓reduceIte,and_true,zan,zak]
theorem ixf_vec (n:Nat) (a0:List zap) (a1:Str) (r:Int) (h:zbt n a0 a1=some r) (q:Pa) (m:M) (P0:Pa) (F fp S C:V) (x:zae) (hmP0:m.blk P0=some [.lit (.string (bs a1))]) (hk:Chk F fp S C m.hp x) (hx:x.p_.zaz=a0) :
  SC Tryz.prog 45 [F,.fn (.func 46) [] [.ptr P0 0]] q m (fun v m'=>v=.lit (.int .i64 r)/\m'=m):=by
 refine SC.apart hmP0 fun hpP0=>?_;refine SC_w Tryz.func45 rfl (fun xs w=>Tryz.call45 xs w) Tryz.ntmps45 (by kernel_rfl) Tryz.results45 ?_;unfold zbt at h;have hS:VSh F 6 a0.length:=by rw [←hx];exact Chk.funcsR hk
 refine zao fun _ z=>?_;simp only [go_sem];apply z;refine zai ?_;refine zao fun _ z=>?_;simp only [go_sem,seval,hS.slen];apply z;refine zaM ?_;obtain ⟨y3,hy3,h⟩:=bind_some h;refine zbj [] [] rfl (fun c E' m'=>∃v2,zaS a0 a1 c v2=some y3/\E' 0=F/\E' 1=.fn (.func 46) [] [.ptr P0 0]/\E' 7=.lit (.int .i64 (a0.length:Int))/\E' 8=.lit (.int .i64 v2)/\m'.blk P0=some ([.lit (.string (bs a1))])/\m'.gl=m.gl/\m'.hp=m.hp/\m.back q m'=m) n ⟨(0:Int),hy3,?_⟩ ?_
 ·simp only [go_sem,seval,and_true,zak,hmP0]
 rintro i1 c4 E5 m6 ⟨v2,hy3,e7⟩ _
 rcases c4 with _ | c4
 ·exact absurd hy3 (by rw [zaS];exact fun e=>nomatch e)
 rw [zaS] at hy3;refine zao fun _ z=>?_;simp only [go_sem,e7];apply z;refine zai ?_;refine zcb (decide (v2<(a0.length:Int))) (by simp only [go_sem,↓reduceIte]) (fun c8=>?_) (fun c8=>?_)
 ·replace hy3:=zaK c8 hy3;refine zaA ?_
  try simp only [zad]
  refine zai ?_;refine zaM ?_;refine zao fun _ z=>?_;simp only [go_sem,seval,c8,e7];apply z;refine zai ?_;obtain ⟨x9,h14,hy3⟩:=bind_some hy3;obtain ⟨f11,f12,f13⟩:=zaD h14;obtain ⟨x10,h15,hy3⟩:=bind_some hy3;obtain ⟨vv,bv,HF,fc⟩:=Chk.foc hk (i:=v2.toNat) (f:=x9) (by rw [hx];exact f13);obtain ⟨rs,s0,s1,s2,s3,s4,s5,s6⟩:=fc.rows;have hvs:=fc.vars.shC;have h6:(6<=rs.length+1+1+1+1+1+1)=True:=eq_true (by omega);have hix:∀ {C:V->Prop},zfC Tryz.prog (.sl 33) F (.lit (.int .i64 v2)) C=C (.pp (vid F) (v2.toNat*6)):=VSh.ix (P:=Tryz.prog) (k:=.i64) hS sz33 f11 f12;refine zat fun _ z=>?_;simp only [go_sem,seval,List.map_cons,List.map_nil,List.nil_append,List.cons_append,true_and,List.take_succ_cons,List.take_zero,List.length_cons,e7,hix,fc.hF,s0,s6,h6,hvs.shr];have hd:x10=decide (x9.zb5=a1):=(zah h15).symm;refine SC.by_ (zqq (nm:=x9.zb5) (P0:=P0) (a1:=a1) (by simp only [go_sem,e7])) ?_;simp only [go_sem,Nat.reduceAdd];apply z;rw [←hd];refine zbN x10 (fun c16=>?_) (fun c16=>?_)
  ·replace hy3:=zaK c16 hy3;refine zao fun _ z=>?_;simp only [go_sem,seval,c16];apply z;refine zaw ?_
   try simp only [zaE,zaZ]
   obtain rfl:=zah hy3;simp only [Sum.elim_inr] at h;obtain rfl:=zah h;refine ⟨by simp,?_⟩;simp only [go_sem,↓reduceIte,and_true,e7]
  ·replace hy3:=zaL c16 hy3;refine zaA ?_
   try simp only [zad,zau]
   refine zat fun _ z=>?_;simp only [go_sem,seval,c16,e7];apply z;refine ⟨c4,Nat.lt_succ_self _,(IntKind.i64.wrap (v2+(1:Int))),hy3,?_⟩;simp only [go_sem,seval,and_true,e7]
 ·replace hy3:=zaL c8 hy3;refine zbK ?_
  try simp only [seval,zaW,zaQ,zad,zaW,zaQ]
  obtain rfl:=zah hy3;simp only [Sum.elim_inl] at h;refine zao fun _ z=>?_;simp only [go_sem,Nat.reduceAdd,c8];apply z;refine zaw ?_;obtain rfl:=zah h;refine ⟨by simp,?_⟩;simp only [go_sem,↓reduceIte,and_true,e7]
theorem zgp (n:Nat) (a0:zaB) (a1:Str) (r:Int × Bool) (h:zef n a0 a1=some r) (q:Pa) (m:M) (vs:List V) (F fp S C:V) (x:zae) (hy:vs.map V.weak1=[.agg [F],.lit (.string (bs a1))]/\Chk F fp S C m.hp x/\x.p_=a0) :
  SC Tryz.prog 18 vs q m (fun v m'=>v=.tup [.lit (.int .i64 r.1),.lit (.bool r.2)]/\m'=m):=by
 obtain ⟨hv,hk,hx⟩:=hy;refine SC.weak ?_;rw [hv];have hS:=Chk.funcsR hk;refine SC_w Tryz.func18 rfl (fun xs w=>Tryz.call18 xs w) Tryz.ntmps18 (by kernel_rfl) Tryz.results18 ?_;unfold zef at h
 have hraw:(F=.nilv/\F.raw0=.list .self []) ∨ F.raw0=F:=by
  rcases hS with ⟨hF,_⟩ | ⟨id,hF⟩
  ·exact .inl ⟨hF,by rw [hF];rfl⟩
  ·exact .inr (by rw [hF];rfl)
 rcases hraw with ⟨hF,hraw⟩ | hraw
 refine zao fun _ z=>?_;simp only [go_sem,seval,List.map_cons,List.map_nil,true_and,hraw];apply z;refine zgZ (id:=0::q) (off:=0) (cs:=[.list .self []]) (by simp only [go_sem,↓reduceIte,Nat.zero_ne_one,and_true,List.cons.injEq]) rfl ?_;refine zoB (fun m1=>m1.blk (0::q)=some [F]/\m1.blk (1::q)=some [.lit (.string (bs a1))]/\m1.hp=m.hp/\m1.gl=m.gl/\m.back q m1=m) (by simp only [go_sem,↓reduceIte,and_true,List.set_cons_zero,hF,List.cons.injEq,Nat.succ_ne_self,zan,zak]) ?_
 rotate_left
 refine zao fun _ z=>?_;simp only [go_sem,seval,List.map_cons,List.map_nil,true_and,hraw];apply z;refine zoB (fun m1=>m1.blk (0::q)=some [F]/\m1.blk (1::q)=some [.lit (.string (bs a1))]/\m1.hp=m.hp/\m1.gl=m.gl/\m.back q m1=m) (by simp only [go_sem,↓reduceIte,Nat.zero_ne_one,and_true,List.cons.injEq,zan,zak]) ?_
 all_goals
  rintro m1 ⟨e0,e1,e2,e3,e4⟩;refine zai ?_;obtain ⟨x3,h4,h⟩:=bind_some h;refine zat fun _ z=>?_;simp only [go_sem,seval,List.map_cons,List.map_nil,List.nil_append,List.append_nil,List.drop_zero,e0,hS.ld];refine SC.by_ (ixf_vec n a0.zaz a1 _ h4 _ _ (1::q) F fp S C x e1 (by rw [e2];exact hk) (by rw [hx])) ?_;simp only [go_sem,seval];apply z;refine zao fun _ z=>?_;simp only [go_sem,seval];apply z;refine zaw ?_;obtain rfl:=zah h;refine ⟨by simp,?_⟩;simp only [go_sem,seval,List.map_cons,List.map_nil,and_true,e4]
theorem zkc (n:Nat) (a0:zap) (r:Int) (h:zfh n a0=some r) (q:Pa) (m:M) (vs:List V) (vv bv:V) (hy:vs.map V.weak1=[.agg (zgV a0 vv bv)]/\VecR m.hp vv 3 (a0.zaJ.map zar.C)) :
  SC Tryz.prog 70 vs q m (fun v m'=>v=.lit (.int .i64 r)/\m'=m):=by
 obtain ⟨hv,hR⟩:=hy;refine SC.weak ?_;rw [hv];have hS:=hR.shC;refine SC_w Tryz.func70 rfl (fun xs w=>Tryz.call70 xs w) Tryz.ntmps70 (by kernel_rfl) Tryz.results70 ?_;unfold zfh at h;obtain ⟨⟨f2,f3⟩,h⟩:=zaT h;have hl:(a0.zaJ.take a0.zaC.toNat).length=a0.zaC.toNat:=by rw [List.length_take];omega
 have hRc:=VecR.cutC hR f3;have hSc:VSh (cutV vv a0.zaC.toNat) 3 (a0.zaJ.take a0.zaC.toNat).length:=hRc.shC;have hsl:∀ {C:V->Prop},slU Tryz.prog (.sl 40) vv none (some (.lit (.int .i64 a0.zaC))) C=C (cutV vv a0.zaC.toNat):=VSh.slHi (P:=Tryz.prog) (k:=.i64) hS sz40 f2 f3
 have hraw:(vv=.nilv/\vv.raw0=.list .self []) ∨ vv.raw0=vv:=by
  rcases hS with ⟨hF,_⟩ | ⟨id,hF⟩
  ·exact .inl ⟨hF,by rw [hF];rfl⟩
  ·exact .inr (by rw [hF];rfl)
 rcases hraw with ⟨hF,hraw⟩ | hraw
 refine zao fun _ z=>?_;simp only [go_sem,Nat.reduceAdd,List.map_cons,List.map_nil,true_and,hraw];apply z;refine zgZ (id:=0::q) (off:=4) (cs:=[.lit (.string (bs a0.zb5)),.lit (.bool a0.zbn),.lit (.int .i64 a0.zaV),.lit (.int .i64 a0.zaC),.list .self [],bv.raw0]) (by simp only [go_sem,↓reduceIte]) rfl ?_;refine zoB (fun m1=>m1.blk (0::q)=some [.lit (.string (bs a0.zb5)),.lit (.bool a0.zbn),.lit (.int .i64 a0.zaV),.lit (.int .i64 a0.zaC),vv,bv.raw0]/\m1.hp=m.hp/\m1.gl=m.gl/\m.back q m1=m) (by simp only [go_sem,↓reduceIte,and_true,List.set_cons_zero,List.set_cons_succ,hF,zan,zak]) ?_
 rotate_left
 refine zao fun _ z=>?_;simp only [go_sem,Nat.reduceAdd,List.map_cons,List.map_nil,true_and,hraw];apply z;refine zoB (fun m1=>m1.blk (0::q)=some [.lit (.string (bs a0.zb5)),.lit (.bool a0.zbn),.lit (.int .i64 a0.zaV),.lit (.int .i64 a0.zaC),vv,bv.raw0]/\m1.hp=m.hp/\m1.gl=m.gl/\m.back q m1=m) (by simp only [go_sem,↓reduceIte,and_true,zan,zak]) ?_
 all_goals
  rintro m1 ⟨e0,e2,e3,e4⟩;refine zao fun _ z=>?_;simp only [go_sem,Nat.reduceAdd];apply z;refine zai ?_;refine zao fun _ z=>?_;simp only [go_sem,seval,Option.map_some,Option.map_none,List.drop_succ_cons,List.drop_zero,e0,hS.ld,hsl,hSc.slen];apply z;refine zaM ?_;obtain ⟨y7,hy7,h⟩:=bind_some h;refine zbj [] [] rfl (fun c E' m'=>∃v5 v6,zc2 a0 c v5 v6=some y7/\E' 3=.lit (.int .i64 v5)/\E' 10=cutV vv a0.zaC.toNat/\E' 11=.lit (.int .i64 ((a0.zaJ.take a0.zaC.toNat).length:Int))/\E' 12=.lit (.int .i64 v6)/\m'.hp=m.hp/\m'.gl=m.gl/\m.back q m'=m) n ⟨(0:Int),(0:Int),hy7,?_⟩ ?_
  ·simp only [go_sem,seval,and_true,e2,e3,e4]
  rintro i4 c8 E9 m10 ⟨v5,v6,hy7,e11⟩ _
  rcases c8 with _ | c8
  ·exact absurd hy7 (by rw [zc2];exact fun e=>nomatch e)
  rw [zc2] at hy7;refine zao fun _ z=>?_;simp only [go_sem,e11];apply z;refine zai ?_;refine zcb (decide (v6<((a0.zaJ.take a0.zaC.toNat).length:Int))) (by simp only [go_sem,↓reduceIte]) (fun c12=>?_) (fun c12=>?_)
  ·replace hy7:=zaK c12 hy7;refine zaA ?_
   try simp only [zad]
   refine zai ?_;obtain ⟨y13,hy13,hy7⟩:=bind_some hy7;refine zbh 17 [] [] rfl (fun E' m'=>E' 3=.lit (.int .i64 y13)/\E' 10=cutV vv a0.zaC.toNat/\E' 11=.lit (.int .i64 ((a0.zaJ.take a0.zaC.toNat).length:Int))/\E' 12=.lit (.int .i64 v6)/\m'.hp=m.hp/\m'.gl=m.gl/\m.back q m'=m) ?_ ?_
   ·refine zaM ?_;refine zai ?_;obtain ⟨x14,h19,hy13⟩:=bind_some hy13;obtain ⟨f16,f17,f18⟩:=zaD h19;obtain ⟨HV,rest,s0,s1,s2,s3⟩:=VecR.readVar hRc f18;have h3:(3<=rest.length+1+1+1)=True:=eq_true (by omega);have hix:∀ {C:V->Prop},zfC Tryz.prog (.sl 40) (cutV vv a0.zaC.toNat) (.lit (.int .i64 v6)) C=C (.pp (vid (cutV vv a0.zaC.toNat)) (v6.toNat*3)):=VSh.ix (P:=Tryz.prog) (k:=.i64) hSc sz40 f16 f17;refine zat fun _ z=>?_;simp only [go_sem,seval,List.map_cons,List.map_nil,true_and,List.take_succ_cons,List.take_zero,List.set_cons_zero,List.set_cons_succ,List.length_cons,List.length_nil,f17,e11,hix,s0,s1,h3];apply z;refine zai ?_;refine zao fun _ z=>?_;simp only [go_sem,seval,List.drop_succ_cons,List.drop_zero];apply z;refine zbN (x14.za4 == (3:Int)) (fun c20=>?_) (fun c20=>?_)
    ·replace hy13:=zaK c20 hy13;refine zat fun _ z=>?_;simp only [go_sem,seval,true_and,c20,(by decide:(2:Int) ≠ (0:Int)),e11];apply z;refine zc1 fun _ z=>?_;simp only [go_sem,seval];apply z;simp only [zad,zau];obtain rfl:=zah hy13;refine ⟨by decide,?_⟩;simp only [go_sem,seval,and_true,zan,e11]
    ·replace hy13:=zaL c20 hy13;refine zaA ?_
     try simp only [zad]
     refine zc1 fun _ z=>?_;simp only [go_sem,seval,c20,e11];apply z;simp only [zad,zau];obtain rfl:=zah hy13;refine ⟨by decide,?_⟩;simp only [go_sem,seval,and_true,zan,e11]
   ·intro E21 m22 e23 _;simp only [zad];refine zat fun _ z=>?_;simp only [go_sem,seval,e23];apply z;refine ⟨c8,Nat.lt_succ_self _,y13,(IntKind.i64.wrap (v6+(1:Int))),hy7,?_⟩;simp only [go_sem,seval,and_true,e23]
  ·replace hy7:=zaL c12 hy7;refine zbK ?_
   try simp only [seval,zaW,zaQ,zad,zaW,zaQ]
   obtain rfl:=zah hy7;refine zao fun _ z=>?_;simp only [go_sem,seval,c12,e11];apply z;refine zaw ?_;obtain rfl:=zah h;refine ⟨by simp,?_⟩;simp only [go_sem,↓reduceIte,and_true,e11]
end Go.Proofs.YtldnmmnnohnpkaaGreatDoor.Abs
