/-
 Walks by hand: a program's function is found, and a function's words are counted, while they lie in the private heap.
-/
import Derived.Test.YtldnmmnnohnpkaaGreatDoorILH1
import Derived.Test.YtldnmmnnohnpkaaGreatDoorILFacts
namespace Go.Proofs.YtldnmmnnohnpkaaGreatDoor.Abs
set_option linter.unusedVariables false
open Go.RowKit
set_option maxRecDepth 10000
theorem zo0 {nm:Str} {x1 x2 x3 x4 x5:V} {a1:Str} {q:Pa} {m:M} {P0:Pa} (hmP0:m.blk P0=some [.lit (.string (bs a1))]) :
  SC Tryz.prog 46 [.agg [.lit (.string (bs nm)),x1,x2,x3,x4,x5],.ptr P0 0] q m (fun v m'=>v=.lit (.bool (decide (nm=a1)))/\m'=m):=by
 refine SC.apart hmP0 fun hpP0=>?_;refine SC_w Tryz.func46 rfl (fun xs w=>Tryz.call46 xs w) Tryz.ntmps46 (by kernel_rfl) Tryz.results46 ?_;refine zan fun _ z=>?_;simp only [go_sem,Nat.reduceAdd,List.map_cons,List.map_nil,true_and];apply z;refine zan fun _ z=>?_;simp only [go_sem,seval,List.drop_zero,pz1 hpP0,hmP0];apply z;refine zau ?_;refine ⟨by simp,?_⟩;simp only [go_sem,↓reduceIte,and_true,zam,zak]
theorem ixf_vec (n:Nat) (a0:List zaI) (a1:Str) (r:Int) (h:zbT n a0 a1=some r) (q:Pa) (m:M) (P0:Pa) (F fp S C:V) (x:zad) (hmP0:m.blk P0=some [.lit (.string (bs a1))]) (hk:Chk F fp S C m.hp x) (hx:x.p_.zbp=a0) :
  SC Tryz.prog 45 [F,.fn (.func 46) [] [.ptr P0 0]] q m (fun v m'=>v=.lit (.int .i64 r)/\m'=m):=by
 refine SC.apart hmP0 fun hpP0=>?_;refine SC_w Tryz.func45 rfl (fun xs w=>Tryz.call45 xs w) Tryz.ntmps45 (by kernel_rfl) Tryz.results45 ?_;unfold zbT at h;have hS:VSh F 6 a0.length:=by rw [←hx];exact Chk.funcsR hk
 refine zan fun _ z=>?_;simp only [go_sem];apply z;refine zah ?_;refine zan fun _ z=>?_;simp only [go_sem,seval,hS.slen];apply z;refine zaG ?_;obtain ⟨y3,hy3,h⟩:=bind_some h;refine zbu [] [] rfl (fun c E' m'=>∃v2,zbk a0 a1 c v2=some y3/\E' 0=F/\E' 1=.fn (.func 46) [] [.ptr P0 0]/\E' 7=.lit (.int .i64 (a0.length:Int))/\E' 8=.lit (.int .i64 v2)/\m'.blk P0=some ([.lit (.string (bs a1))])/\m'.gl=m.gl/\m'.hp=m.hp/\m.back q m'=m) n ⟨(0:Int),hy3,?_⟩ ?_
 ·simp only [go_sem,seval,and_true,zak,hmP0]
 rintro i1 c4 E5 m6 ⟨v2,hy3,e7⟩ _
 rcases c4 with _ | c4
 ·exact absurd hy3 (by rw [zbk];exact fun e=>nomatch e)
 rw [zbk] at hy3;refine zan fun _ z=>?_;simp only [go_sem,e7];apply z;refine zah ?_;refine zbF (decide (v2<(a0.length:Int))) (by simp only [go_sem,↓reduceIte]) (fun c8=>?_) (fun c8=>?_)
 ·replace hy3:=zaA c8 hy3;refine zav ?_
  try simp only [zaa]
  refine zah ?_;refine zaG ?_;refine zan fun _ z=>?_;simp only [go_sem,seval,c8,e7];apply z;refine zah ?_;obtain ⟨x9,h14,hy3⟩:=bind_some hy3;obtain ⟨f11,f12,f13⟩:=zaw h14;obtain ⟨x10,h15,hy3⟩:=bind_some hy3;obtain ⟨vv,bv,HF,fc⟩:=Chk.foc hk (i:=v2.toNat) (f:=x9) (by rw [hx];exact f13);obtain ⟨rs,s0,s1,s2,s3,s4,s5,s6⟩:=fc.rows;have hvs:=fc.vars.shC;have h6:(6<=rs.length+1+1+1+1+1+1)=True:=eq_true (by omega);have hix:∀ {C:V->Prop},zfr Tryz.prog (.sl 33) F (.lit (.int .i64 v2)) C=C (.pp (vid F) (v2.toNat*6)):=VSh.ix (P:=Tryz.prog) (k:=.i64) hS sz33 f11 f12;refine zao fun _ z=>?_;simp only [go_sem,seval,List.map_cons,List.map_nil,List.nil_append,List.cons_append,true_and,List.take_succ_cons,List.take_zero,List.length_cons,e7,hix,fc.hF,s0,s6,h6,hvs.shr];have hd:x10=decide (x9.zgC=a1):=(zag h15).symm;refine SC.by_ (zo0 (nm:=x9.zgC) (P0:=P0) (a1:=a1) (by simp only [go_sem,e7])) ?_;simp only [go_sem,Nat.reduceAdd];apply z;rw [←hd];refine zbn x10 (fun c16=>?_) (fun c16=>?_)
  ·replace hy3:=zaA c16 hy3;refine zan fun _ z=>?_;simp only [go_sem,seval,c16];apply z;refine zau ?_
   try simp only [zat,zaC]
   obtain rfl:=zag hy3;simp only [Sum.elim_inr] at h;obtain rfl:=zag h;refine ⟨by simp,?_⟩;simp only [go_sem,↓reduceIte,and_true,e7]
  ·replace hy3:=zaB c16 hy3;refine zav ?_
   try simp only [zaa,zaq]
   refine zao fun _ z=>?_;simp only [go_sem,seval,c16,e7];apply z;refine ⟨c4,Nat.lt_succ_self _,(IntKind.i64.wrap (v2+(1:Int))),hy3,?_⟩;simp only [go_sem,seval,and_true,e7]
 ·replace hy3:=zaB c8 hy3;refine zbG ?_
  try simp only [seval,zaS,zaK,zaa,zaS,zaK]
  obtain rfl:=zag hy3;simp only [Sum.elim_inl] at h;refine zan fun _ z=>?_;simp only [go_sem,Nat.reduceAdd,c8];apply z;refine zau ?_;obtain rfl:=zag h;refine ⟨by simp,?_⟩;simp only [go_sem,↓reduceIte,and_true,e7]
theorem zgc (n:Nat) (a0:zas) (a1:Str) (r:Int × Bool) (h:ze9 n a0 a1=some r) (q:Pa) (m:M) (vs:List V) (F fp S C:V) (x:zad) (hy:vs.map V.weak1=[.agg [F],.lit (.string (bs a1))]/\Chk F fp S C m.hp x/\x.p_=a0) :
  SC Tryz.prog 18 vs q m (fun v m'=>v=.tup [.lit (.int .i64 r.1),.lit (.bool r.2)]/\m'=m):=by
 obtain ⟨hv,hk,hx⟩:=hy;refine SC.weak ?_;rw [hv];have hS:=Chk.funcsR hk;refine SC_w Tryz.func18 rfl (fun xs w=>Tryz.call18 xs w) Tryz.ntmps18 (by kernel_rfl) Tryz.results18 ?_;unfold ze9 at h
 have hraw:(F=.nilv/\F.raw0=.list .self []) ∨ F.raw0=F:=by
  rcases hS with ⟨hF,_⟩ | ⟨id,hF⟩
  ·exact .inl ⟨hF,by rw [hF];rfl⟩
  ·exact .inr (by rw [hF];rfl)
 rcases hraw with ⟨hF,hraw⟩ | hraw
 refine zan fun _ z=>?_;simp only [go_sem,seval,List.map_cons,List.map_nil,true_and,hraw];apply z;refine zgN (id:=0::q) (off:=0) (cs:=[.list .self []]) (by simp only [go_sem,↓reduceIte,Nat.zero_ne_one,and_true,List.cons.injEq]) rfl ?_;refine znH (fun m1=>m1.blk (0::q)=some [F]/\m1.blk (1::q)=some [.lit (.string (bs a1))]/\m1.hp=m.hp/\m1.gl=m.gl/\m.back q m1=m) (by simp only [go_sem,↓reduceIte,and_true,List.set_cons_zero,hF,List.cons.injEq,Nat.succ_ne_self,zam,zak]) ?_
 rotate_left
 refine zan fun _ z=>?_;simp only [go_sem,seval,List.map_cons,List.map_nil,true_and,hraw];apply z;refine znH (fun m1=>m1.blk (0::q)=some [F]/\m1.blk (1::q)=some [.lit (.string (bs a1))]/\m1.hp=m.hp/\m1.gl=m.gl/\m.back q m1=m) (by simp only [go_sem,↓reduceIte,Nat.zero_ne_one,and_true,List.cons.injEq,zam,zak]) ?_
 all_goals
  rintro m1 ⟨e0,e1,e2,e3,e4⟩;refine zah ?_;obtain ⟨x3,h4,h⟩:=bind_some h;refine zao fun _ z=>?_;simp only [go_sem,seval,List.map_cons,List.map_nil,List.nil_append,List.append_nil,List.drop_zero,e0,hS.ld];refine SC.by_ (ixf_vec n a0.zbp a1 _ h4 _ _ (1::q) F fp S C x e1 (by rw [e2];exact hk) (by rw [hx])) ?_;simp only [go_sem,seval];apply z;refine zan fun _ z=>?_;simp only [go_sem,seval];apply z;refine zau ?_;obtain rfl:=zag h;refine ⟨by simp,?_⟩;simp only [go_sem,seval,List.map_cons,List.map_nil,and_true,e4]
theorem zjZ (n:Nat) (a0:zaI) (r:Int) (h:zgM n a0=some r) (q:Pa) (m:M) (vs:List V) (vv bv:V) (hy:vs.map V.weak1=[.agg (zgL a0 vv bv)]/\VecR m.hp vv 3 (a0.zbg.map zaD.C)) :
  SC Tryz.prog 70 vs q m (fun v m'=>v=.lit (.int .i64 r)/\m'=m):=by
 obtain ⟨hv,hR⟩:=hy;refine SC.weak ?_;rw [hv];have hS:=hR.shC;refine SC_w Tryz.func70 rfl (fun xs w=>Tryz.call70 xs w) Tryz.ntmps70 (by kernel_rfl) Tryz.results70 ?_;unfold zgM at h;obtain ⟨⟨f2,f3⟩,h⟩:=zaM h;have hl:(a0.zbg.take a0.zbd.toNat).length=a0.zbd.toNat:=by rw [List.length_take];omega
 have hRc:=VecR.cutC hR f3;have hSc:VSh (cutV vv a0.zbd.toNat) 3 (a0.zbg.take a0.zbd.toNat).length:=hRc.shC;have hsl:∀ {C:V->Prop},slU Tryz.prog (.sl 40) vv none (some (.lit (.int .i64 a0.zbd))) C=C (cutV vv a0.zbd.toNat):=VSh.slHi (P:=Tryz.prog) (k:=.i64) hS sz40 f2 f3
 have hraw:(vv=.nilv/\vv.raw0=.list .self []) ∨ vv.raw0=vv:=by
  rcases hS with ⟨hF,_⟩ | ⟨id,hF⟩
  ·exact .inl ⟨hF,by rw [hF];rfl⟩
  ·exact .inr (by rw [hF];rfl)
 rcases hraw with ⟨hF,hraw⟩ | hraw
 refine zan fun _ z=>?_;simp only [go_sem,Nat.reduceAdd,List.map_cons,List.map_nil,true_and,hraw];apply z;refine zgN (id:=0::q) (off:=4) (cs:=[.lit (.string (bs a0.zgC)),.lit (.bool a0.zgk),.lit (.int .i64 a0.zct),.lit (.int .i64 a0.zbd),.list .self [],bv.raw0]) (by simp only [go_sem,↓reduceIte]) rfl ?_;refine znH (fun m1=>m1.blk (0::q)=some [.lit (.string (bs a0.zgC)),.lit (.bool a0.zgk),.lit (.int .i64 a0.zct),.lit (.int .i64 a0.zbd),vv,bv.raw0]/\m1.hp=m.hp/\m1.gl=m.gl/\m.back q m1=m) (by simp only [go_sem,↓reduceIte,and_true,List.set_cons_zero,List.set_cons_succ,hF,zam,zak]) ?_
 rotate_left
 refine zan fun _ z=>?_;simp only [go_sem,Nat.reduceAdd,List.map_cons,List.map_nil,true_and,hraw];apply z;refine znH (fun m1=>m1.blk (0::q)=some [.lit (.string (bs a0.zgC)),.lit (.bool a0.zgk),.lit (.int .i64 a0.zct),.lit (.int .i64 a0.zbd),vv,bv.raw0]/\m1.hp=m.hp/\m1.gl=m.gl/\m.back q m1=m) (by simp only [go_sem,↓reduceIte,and_true,zam,zak]) ?_
 all_goals
  rintro m1 ⟨e0,e2,e3,e4⟩;refine zan fun _ z=>?_;simp only [go_sem,Nat.reduceAdd];apply z;refine zah ?_;refine zan fun _ z=>?_;simp only [go_sem,seval,Option.map_some,Option.map_none,List.drop_succ_cons,List.drop_zero,e0,hS.ld,hsl,hSc.slen];apply z;refine zaG ?_;obtain ⟨y7,hy7,h⟩:=bind_some h;refine zbu [] [] rfl (fun c E' m'=>∃v5 v6,zdX a0 c v5 v6=some y7/\E' 3=.lit (.int .i64 v5)/\E' 10=cutV vv a0.zbd.toNat/\E' 11=.lit (.int .i64 ((a0.zbg.take a0.zbd.toNat).length:Int))/\E' 12=.lit (.int .i64 v6)/\m'.hp=m.hp/\m'.gl=m.gl/\m.back q m'=m) n ⟨(0:Int),(0:Int),hy7,?_⟩ ?_
  ·simp only [go_sem,seval,and_true,e2,e3,e4]
  rintro i4 c8 E9 m10 ⟨v5,v6,hy7,e11⟩ _
  rcases c8 with _ | c8
  ·exact absurd hy7 (by rw [zdX];exact fun e=>nomatch e)
  rw [zdX] at hy7;refine zan fun _ z=>?_;simp only [go_sem,e11];apply z;refine zah ?_;refine zbF (decide (v6<((a0.zbg.take a0.zbd.toNat).length:Int))) (by simp only [go_sem,↓reduceIte]) (fun c12=>?_) (fun c12=>?_)
  ·replace hy7:=zaA c12 hy7;refine zav ?_
   try simp only [zaa]
   refine zah ?_;obtain ⟨y13,hy13,hy7⟩:=bind_some hy7;refine zbf 17 [] [] rfl (fun E' m'=>E' 3=.lit (.int .i64 y13)/\E' 10=cutV vv a0.zbd.toNat/\E' 11=.lit (.int .i64 ((a0.zbg.take a0.zbd.toNat).length:Int))/\E' 12=.lit (.int .i64 v6)/\m'.hp=m.hp/\m'.gl=m.gl/\m.back q m'=m) ?_ ?_
   ·refine zaG ?_;refine zah ?_;obtain ⟨x14,h19,hy13⟩:=bind_some hy13;obtain ⟨f16,f17,f18⟩:=zaw h19;obtain ⟨HV,rest,s0,s1,s2,s3⟩:=VecR.readVar hRc f18;have h3:(3<=rest.length+1+1+1)=True:=eq_true (by omega);have hix:∀ {C:V->Prop},zfr Tryz.prog (.sl 40) (cutV vv a0.zbd.toNat) (.lit (.int .i64 v6)) C=C (.pp (vid (cutV vv a0.zbd.toNat)) (v6.toNat*3)):=VSh.ix (P:=Tryz.prog) (k:=.i64) hSc sz40 f16 f17;refine zao fun _ z=>?_;simp only [go_sem,seval,List.map_cons,List.map_nil,true_and,List.take_succ_cons,List.take_zero,List.set_cons_zero,List.set_cons_succ,List.length_cons,List.length_nil,f17,e11,hix,s0,s1,h3];apply z;refine zah ?_;refine zan fun _ z=>?_;simp only [go_sem,seval,List.drop_succ_cons,List.drop_zero];apply z;refine zbn (x14.zbA == (3:Int)) (fun c20=>?_) (fun c20=>?_)
    ·replace hy13:=zaA c20 hy13;refine zao fun _ z=>?_;simp only [go_sem,seval,true_and,c20,(by decide:(2:Int) ≠ (0:Int)),e11];apply z;refine zca fun _ z=>?_;simp only [go_sem,seval];apply z;simp only [zaa,zaq];obtain rfl:=zag hy13;refine ⟨by decide,?_⟩;simp only [go_sem,seval,and_true,zam,e11]
    ·replace hy13:=zaB c20 hy13;refine zav ?_
     try simp only [zaa]
     refine zca fun _ z=>?_;simp only [go_sem,seval,c20,e11];apply z;simp only [zaa,zaq];obtain rfl:=zag hy13;refine ⟨by decide,?_⟩;simp only [go_sem,seval,and_true,zam,e11]
   ·intro E21 m22 e23 _;simp only [zaa];refine zao fun _ z=>?_;simp only [go_sem,seval,e23];apply z;refine ⟨c8,Nat.lt_succ_self _,y13,(IntKind.i64.wrap (v6+(1:Int))),hy7,?_⟩;simp only [go_sem,seval,and_true,e23]
  ·replace hy7:=zaB c12 hy7;refine zbG ?_
   try simp only [seval,zaS,zaK,zaa,zaS,zaK]
   obtain rfl:=zag hy7;refine zan fun _ z=>?_;simp only [go_sem,seval,c12,e11];apply z;refine zau ?_;obtain rfl:=zag h;refine ⟨by simp,?_⟩;simp only [go_sem,↓reduceIte,and_true,e11]
end Go.Proofs.YtldnmmnnohnpkaaGreatDoor.Abs
