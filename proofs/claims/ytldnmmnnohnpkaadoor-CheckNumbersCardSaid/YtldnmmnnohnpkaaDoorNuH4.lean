/-
 Walks by hand: a program's function is found, and a function's words are counted, while they lie in the private heap.
-/
import Derived.Test.YtldnmmnnohnpkaaDoorNuH1
import Derived.Test.YtldnmmnnohnpkaaDoorNuFacts
namespace Go.Proofs.YtldnmmnnohnpkaaDoor.Abs
open Go.RowKit
set_option linter.unusedVariables false
set_option maxRecDepth 10000
theorem zmo {nm : Str} {x1 x2 x3 x4 x5 : V} {a1 : Str} {q : Pa} {m : M} {P0 : Pa} (hmP0 : m.blk P0 = some [.lit (.string (bs a1))]) :
 SC Tryd.prog 18 [.agg [.lit (.string (bs nm)), x1, x2, x3, x4, x5], .ptr P0 0] q m (fun v m' => v = .lit (.bool (decide (nm = a1))) /\ m' = m) := by
 refine SC.apart hmP0 fun hpP0 => ?_; refine SC_w Tryd.func18 rfl (fun xs w => Tryd.call18 xs w) Tryd.ntmps18 (by kernel_rfl) Tryd.results18 ?_; refine zan fun _ z => ?_; simp only [go_sem, Nat.reduceAdd, List.map_cons, List.map_nil, true_and]; apply z; refine zan fun _ z => ?_; simp only [go_sem, seval, List.drop_zero, pz1 hpP0, hmP0]; apply z; refine zar ?_; refine ⟨by simp, ?_⟩; simp only [go_sem, ↓reduceIte, and_true, zam, zaj]
theorem ixf_vec (n : Nat) (a0 : List zaB) (a1 : Str) (r : Int) (h : zbz n a0 a1 = some r) (q : Pa) (m : M) (P0 : Pa) (F fp S C : V) (x : zad) (hmP0 : m.blk P0 = some [.lit (.string (bs a1))]) (hk : Chk F fp S C m.hp x) (hx : x.p_.zaT = a0) :
 SC Tryd.prog 17 [F, .fn (.func 18) [] [.ptr P0 0]] q m (fun v m' => v = .lit (.int .i64 r) /\ m' = m) := by
 refine SC.apart hmP0 fun hpP0 => ?_; refine SC_w Tryd.func17 rfl (fun xs w => Tryd.call17 xs w) Tryd.ntmps17 (by kernel_rfl) Tryd.results17 ?_; unfold zbz at h; have hS : VSh F 6 a0.length := by rw [← hx]; exact Chk.funcsR hk
 refine zan fun _ z => ?_; simp only [go_sem]; apply z; refine zai ?_; refine zan fun _ z => ?_; simp only [go_sem, seval, hS.slen]; apply z; refine zaH ?_; obtain ⟨y3, hy3, h⟩ := bind_some h; refine zbm [] [] rfl (fun c E' m' => ∃ v2, za1 a0 a1 c v2 = some y3 /\ E' 0 = F /\ E' 1 = .fn (.func 18) [] [.ptr P0 0] /\ E' 7 = .lit (.int .i64 (a0.length : Int)) /\ E' 8 = .lit (.int .i64 v2) /\ m'.blk P0 = some ([.lit (.string (bs a1))]) /\ m'.gl = m.gl /\ m'.hp = m.hp /\ m.back q m' = m) n ⟨(0 : Int), hy3, ?_⟩ ?_
 ·simp only [go_sem, seval, and_true, zaj, hmP0]
 rintro i1 c4 E5 m6 ⟨v2, hy3, e7⟩ _
 rcases c4 with _ | c4
 ·exact absurd hy3 (by rw [za1]; exact fun e => nomatch e)
 rw [za1] at hy3; refine zan fun _ z => ?_; simp only [go_sem, e7]; apply z; refine zai ?_; refine zcg (decide (v2 < (a0.length : Int))) (by simp only [go_sem, ↓reduceIte]) (fun c8 => ?_) (fun c8 => ?_)
 ·replace hy3 := zaE c8 hy3; refine zaw ?_
  try simp only [zac]
  refine zai ?_; refine zaH ?_; refine zan fun _ z => ?_; simp only [go_sem, seval, c8, e7]; apply z; refine zai ?_; obtain ⟨x9, h14, hy3⟩ := bind_some hy3; obtain ⟨f11, f12, f13⟩ := zaA h14; obtain ⟨x10, h15, hy3⟩ := bind_some hy3; obtain ⟨vv, bv, HF, fc⟩ := Chk.foc hk (i := v2.toNat) (f := x9) (by rw [hx]; exact f13); obtain ⟨rs, s0, s1, s2, s3, s4, s5, s6⟩ := fc.rows; have hvs := fc.vars.shC; have h6 : (6 <= rs.length + 1 + 1 + 1 + 1 + 1 + 1) = True := eq_true (by omega); have hix : ∀ {C : V -> Prop}, zeq Tryd.prog (.sl 38) F (.lit (.int .i64 v2)) C = C (.pp (vid F) (v2.toNat * 6)) := VSh.ix (P := Tryd.prog) (k := .i64) hS sz38 f11 f12; refine zao fun _ z => ?_; simp only [go_sem, seval, List.map_cons, List.map_nil, List.nil_append, List.cons_append, true_and, List.take_succ_cons, List.take_zero, List.length_cons, e7, hix, fc.hF, s0, s6, h6, hvs.shr]; have hd : x10 = decide (x9.zfr = a1) := (zah h15).symm; refine SC.by_ (zmo (nm := x9.zfr) (P0 := P0) (a1 := a1) (by simp only [go_sem, e7])) ?_; simp only [go_sem, Nat.reduceAdd]; apply z; rw [← hd]; refine zby x10 (fun c16 => ?_) (fun c16 => ?_)
  ·replace hy3 := zaE c16 hy3; refine zan fun _ z => ?_; simp only [go_sem, seval, c16]; apply z; refine zar ?_
   try simp only [zax, zaL]
   obtain rfl := zah hy3; simp only [Sum.elim_inr] at h; obtain rfl := zah h; refine ⟨by simp, ?_⟩; simp only [go_sem, ↓reduceIte, and_true, e7]
  ·replace hy3 := zaF c16 hy3; refine zaw ?_
   try simp only [zac, zap]
   refine zao fun _ z => ?_; simp only [go_sem, seval, c16, e7]; apply z; refine ⟨c4, Nat.lt_succ_self _, (IntKind.i64.wrap (v2 + (1 : Int))), hy3, ?_⟩; simp only [go_sem, seval, and_true, e7]
 ·replace hy3 := zaF c8 hy3; refine zbP ?_
  try simp only [seval, zaU, zaK, zac, zaU, zaK]
  obtain rfl := zah hy3; simp only [Sum.elim_inl] at h; refine zan fun _ z => ?_; simp only [go_sem, Nat.reduceAdd, c8]; apply z; refine zar ?_; obtain rfl := zah h; refine ⟨by simp, ?_⟩; simp only [go_sem, ↓reduceIte, and_true, e7]
theorem ze9 (n : Nat) (a0 : zbD) (a1 : Str) (r : Int × Bool) (h : zee n a0 a1 = some r) (q : Pa) (m : M) (vs : List V) (F fp S C : V) (x : zad) (hy : vs.map V.weak1 = [.agg [F], .lit (.string (bs a1))] /\ Chk F fp S C m.hp x /\ x.p_ = a0) :
 SC Tryd.prog 8 vs q m (fun v m' => v = .tup [.lit (.int .i64 r.1), .lit (.bool r.2)] /\ m' = m) := by
 obtain ⟨hv, hk, hx⟩ := hy; refine SC.weak ?_; rw [hv]; have hS := Chk.funcsR hk; refine SC_w Tryd.func8 rfl (fun xs w => Tryd.call8 xs w) Tryd.ntmps8 (by kernel_rfl) Tryd.results8 ?_; unfold zee at h
 have hraw : (F = .nilv /\ F.raw0 = .list .self []) ∨ F.raw0 = F := by
  rcases hS with ⟨hF, _⟩ | ⟨id, hF⟩
  ·exact .inl ⟨hF, by rw [hF]; rfl⟩
  ·exact .inr (by rw [hF]; rfl)
 rcases hraw with ⟨hF, hraw⟩ | hraw
 refine zan fun _ z => ?_; simp only [go_sem, seval, List.map_cons, List.map_nil, true_and, hraw]; apply z; refine zfB (id := 0 :: q) (off := 0) (cs := [.list .self []]) (by simp only [go_sem, ↓reduceIte, Nat.zero_ne_one, and_true, List.cons.injEq]) rfl ?_; refine zle (fun m1 => m1.blk (0 :: q) = some [F] /\ m1.blk (1 :: q) = some [.lit (.string (bs a1))] /\ m1.hp = m.hp /\ m1.gl = m.gl /\ m.back q m1 = m) (by simp only [go_sem, ↓reduceIte, and_true, List.set_cons_zero, hF, List.cons.injEq, Nat.succ_ne_self, zam, zaj]) ?_
 rotate_left
 refine zan fun _ z => ?_; simp only [go_sem, seval, List.map_cons, List.map_nil, true_and, hraw]; apply z; refine zle (fun m1 => m1.blk (0 :: q) = some [F] /\ m1.blk (1 :: q) = some [.lit (.string (bs a1))] /\ m1.hp = m.hp /\ m1.gl = m.gl /\ m.back q m1 = m) (by simp only [go_sem, ↓reduceIte, Nat.zero_ne_one, and_true, List.cons.injEq, zam, zaj]) ?_
 all_goals
  rintro m1 ⟨e0, e1, e2, e3, e4⟩; refine zai ?_; obtain ⟨x3, h4, h⟩ := bind_some h; refine zao fun _ z => ?_; simp only [go_sem, seval, List.map_cons, List.map_nil, List.nil_append, List.append_nil, List.drop_zero, e0, hS.ld]; refine SC.by_ (ixf_vec n a0.zaT a1 _ h4 _ _ (1 :: q) F fp S C x e1 (by rw [e2]; exact hk) (by rw [hx])) ?_; simp only [go_sem, seval]; apply z; refine zan fun _ z => ?_; simp only [go_sem, seval]; apply z; refine zar ?_; obtain rfl := zah h; refine ⟨by simp, ?_⟩; simp only [go_sem, seval, List.map_cons, List.map_nil, and_true, e4]
theorem zie (n : Nat) (a0 : zaB) (r : Int) (h : zfz n a0 = some r) (q : Pa) (m : M) (vs : List V) (vv bv : V) (hy : vs.map V.weak1 = [.agg (zfy a0 vv bv)] /\ VecR m.hp vv 3 (a0.zbH.map zas.C)) :
 SC Tryd.prog 10 vs q m (fun v m' => v = .lit (.int .i64 r) /\ m' = m) := by
 obtain ⟨hv, hR⟩ := hy; refine SC.weak ?_; rw [hv]; have hS := hR.shC; refine SC_w Tryd.func10 rfl (fun xs w => Tryd.call10 xs w) Tryd.ntmps10 (by kernel_rfl) Tryd.results10 ?_; unfold zfz at h; obtain ⟨⟨f2, f3⟩, h⟩ := zaO h; have hl : (a0.zbH.take a0.zbk.toNat).length = a0.zbk.toNat := by rw [List.length_take]; omega
 have hRc := VecR.cutC hR f3; have hSc : VSh (cutV vv a0.zbk.toNat) 3 (a0.zbH.take a0.zbk.toNat).length := hRc.shC; have hsl : ∀ {C : V -> Prop}, slU Tryd.prog (.sl 67) vv none (some (.lit (.int .i64 a0.zbk))) C = C (cutV vv a0.zbk.toNat) := VSh.slHi (P := Tryd.prog) (k := .i64) hS sz67 f2 f3
 have hraw : (vv = .nilv /\ vv.raw0 = .list .self []) ∨ vv.raw0 = vv := by
  rcases hS with ⟨hF, _⟩ | ⟨id, hF⟩
  ·exact .inl ⟨hF, by rw [hF]; rfl⟩
  ·exact .inr (by rw [hF]; rfl)
 rcases hraw with ⟨hF, hraw⟩ | hraw
 refine zan fun _ z => ?_; simp only [go_sem, Nat.reduceAdd, List.map_cons, List.map_nil, true_and, hraw]; apply z; refine zfB (id := 0 :: q) (off := 4) (cs := [.lit (.string (bs a0.zfr)), .lit (.bool a0.ze1), .lit (.int .i64 a0.zbN), .lit (.int .i64 a0.zbk), .list .self [], bv.raw0]) (by simp only [go_sem, ↓reduceIte]) rfl ?_; refine zle (fun m1 => m1.blk (0 :: q) = some [.lit (.string (bs a0.zfr)), .lit (.bool a0.ze1), .lit (.int .i64 a0.zbN), .lit (.int .i64 a0.zbk), vv, bv.raw0] /\ m1.hp = m.hp /\ m1.gl = m.gl /\ m.back q m1 = m) (by simp only [go_sem, ↓reduceIte, and_true, List.set_cons_zero, List.set_cons_succ, hF, zam, zaj]) ?_
 rotate_left
 refine zan fun _ z => ?_; simp only [go_sem, Nat.reduceAdd, List.map_cons, List.map_nil, true_and, hraw]; apply z; refine zle (fun m1 => m1.blk (0 :: q) = some [.lit (.string (bs a0.zfr)), .lit (.bool a0.ze1), .lit (.int .i64 a0.zbN), .lit (.int .i64 a0.zbk), vv, bv.raw0] /\ m1.hp = m.hp /\ m1.gl = m.gl /\ m.back q m1 = m) (by simp only [go_sem, ↓reduceIte, and_true, zam, zaj]) ?_
 all_goals
  rintro m1 ⟨e0, e2, e3, e4⟩; refine zan fun _ z => ?_; simp only [go_sem, Nat.reduceAdd]; apply z; refine zai ?_; refine zan fun _ z => ?_; simp only [go_sem, seval, Option.map_some, Option.map_none, List.drop_succ_cons, List.drop_zero, e0, hS.ld, hsl, hSc.slen]; apply z; refine zaH ?_; obtain ⟨y7, hy7, h⟩ := bind_some h; refine zbm [] [] rfl (fun c E' m' => ∃ v5 v6, zdf a0 c v5 v6 = some y7 /\ E' 3 = .lit (.int .i64 v5) /\ E' 10 = cutV vv a0.zbk.toNat /\ E' 11 = .lit (.int .i64 ((a0.zbH.take a0.zbk.toNat).length : Int)) /\ E' 12 = .lit (.int .i64 v6) /\ m'.hp = m.hp /\ m'.gl = m.gl /\ m.back q m' = m) n ⟨(0 : Int), (0 : Int), hy7, ?_⟩ ?_
  ·simp only [go_sem, seval, and_true, e2, e3, e4]
  rintro i4 c8 E9 m10 ⟨v5, v6, hy7, e11⟩ _
  rcases c8 with _ | c8
  ·exact absurd hy7 (by rw [zdf]; exact fun e => nomatch e)
  rw [zdf] at hy7; refine zan fun _ z => ?_; simp only [go_sem, e11]; apply z; refine zai ?_; refine zcg (decide (v6 < ((a0.zbH.take a0.zbk.toNat).length : Int))) (by simp only [go_sem, ↓reduceIte]) (fun c12 => ?_) (fun c12 => ?_)
  ·replace hy7 := zaE c12 hy7; refine zaw ?_
   try simp only [zac]
   refine zai ?_; obtain ⟨y13, hy13, hy7⟩ := bind_some hy7; refine zbe 17 [] [] rfl (fun E' m' => E' 3 = .lit (.int .i64 y13) /\ E' 10 = cutV vv a0.zbk.toNat /\ E' 11 = .lit (.int .i64 ((a0.zbH.take a0.zbk.toNat).length : Int)) /\ E' 12 = .lit (.int .i64 v6) /\ m'.hp = m.hp /\ m'.gl = m.gl /\ m.back q m' = m) ?_ ?_
   ·refine zaH ?_; refine zai ?_; obtain ⟨x14, h19, hy13⟩ := bind_some hy13; obtain ⟨f16, f17, f18⟩ := zaA h19; obtain ⟨HV, rest, s0, s1, s2, s3⟩ := VecR.readVar hRc f18; have h3 : (3 <= rest.length + 1 + 1 + 1) = True := eq_true (by omega); have hix : ∀ {C : V -> Prop}, zeq Tryd.prog (.sl 67) (cutV vv a0.zbk.toNat) (.lit (.int .i64 v6)) C = C (.pp (vid (cutV vv a0.zbk.toNat)) (v6.toNat * 3)) := VSh.ix (P := Tryd.prog) (k := .i64) hSc sz67 f16 f17; refine zao fun _ z => ?_; simp only [go_sem, seval, List.map_cons, List.map_nil, true_and, List.take_succ_cons, List.take_zero, List.set_cons_zero, List.set_cons_succ, List.length_cons, List.length_nil, f17, e11, hix, s0, s1, h3]; apply z; refine zai ?_; refine zan fun _ z => ?_; simp only [go_sem, seval, List.drop_succ_cons, List.drop_zero]; apply z; refine zby (x14.zba == (3 : Int)) (fun c20 => ?_) (fun c20 => ?_)
    ·replace hy13 := zaE c20 hy13; refine zao fun _ z => ?_; simp only [go_sem, seval, true_and, c20, (by decide : (2 : Int) ≠ (0 : Int)), e11]; apply z; refine zcW fun _ z => ?_; simp only [go_sem, seval]; apply z; simp only [zac, zap]; obtain rfl := zah hy13; refine ⟨by decide, ?_⟩; simp only [go_sem, seval, and_true, zam, e11]
    ·replace hy13 := zaF c20 hy13; refine zaw ?_
     try simp only [zac]
     refine zcW fun _ z => ?_; simp only [go_sem, seval, c20, e11]; apply z; simp only [zac, zap]; obtain rfl := zah hy13; refine ⟨by decide, ?_⟩; simp only [go_sem, seval, and_true, zam, e11]
   ·intro E21 m22 e23 _; simp only [zac]; refine zao fun _ z => ?_; simp only [go_sem, seval, e23]; apply z; refine ⟨c8, Nat.lt_succ_self _, y13, (IntKind.i64.wrap (v6 + (1 : Int))), hy7, ?_⟩; simp only [go_sem, seval, and_true, e23]
  ·replace hy7 := zaF c12 hy7; refine zbP ?_
   try simp only [seval, zaU, zaK, zac, zaU, zaK]
   obtain rfl := zah hy7; refine zan fun _ z => ?_; simp only [go_sem, seval, c12, e11]; apply z; refine zar ?_; obtain rfl := zah h; refine ⟨by simp, ?_⟩; simp only [go_sem, ↓reduceIte, and_true, e11]
end Go.Proofs.YtldnmmnnohnpkaaDoor.Abs
