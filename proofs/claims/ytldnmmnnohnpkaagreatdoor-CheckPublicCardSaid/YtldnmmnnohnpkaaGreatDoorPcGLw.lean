/-
 Walks: each function does what its model says. Written by a program of mine (gen.py) for this claim.
-/
import Derived.Test.YtldnmmnnohnpkaaGreatDoorPcH8
import Derived.Test.YtldnmmnnohnpkaaGreatDoorPcS3
import Derived.Test.YtldnmmnnohnpkaaGreatDoorPcGLm
namespace Go.Proofs.YtldnmmnnohnpkaaGreatDoor.Abs
open Go.RowKit
set_option linter.unusedVariables false
set_option maxRecDepth 10000
def zhC (f : Option Bool) : Prop := ∀ r, f = some r -> ∀ (q : Pa) (m : M) (vs : List V), vs.map V.weak1 = [] /\ (m.hp = fun _ => none) /\ m.gl 1 = .eptr [(cA zav.C zaW)] 0 0 /\ m.gl 2 = .eptr [(cA cS zbN)] 0 0 /\ m.gl 3 = .eptr [(cA cS zaQ)] 0 0 /\ m.gl 5 = .eptr [(cA (cA cS) zba)] 0 0 -> SC Tryz.prog 13 vs q m (fun v m' => v = .lit (.bool r) /\ m' = m)
theorem zhi (n : Nat) : zhC (zej n) := by
 rintro r h q m vs ⟨hv, hgh, hg1, hg2, hg3, hg5⟩; refine SC.weak ?_; rw [hv]; refine SC_w Tryz.func13 rfl (fun xs w => Tryz.call13 xs w) Tryz.ntmps13 (by kernel_rfl) Tryz.results13 ?_; unfold zej at h; refine zaq fun _ z => ?_; simp only [go_sem]; apply z; refine zai ?_; obtain ⟨x1, h3, h⟩ := bind_some h; refine zap fun _ z => ?_; simp only [go_sem, seval]; refine SC.by_ (zjt n ([101, 120, 112, 111, 114, 116, 32, 102, 110, 32, 102, 40, 112, 58, 32, 112, 117, 98, 44, 32, 120, 58, 32, 117, 51, 50, 41, 32, 45, 62, 32, 117, 51, 50, 32, 123, 32, 114, 101, 116, 117, 114, 110, 32, 120, 32, 43, 32, 112, 59, 32, 125] : Str) _ h3 _ _ _ (by simp only [go_sem, UInt8.reduceToNat, hgh, hg1, hg2, hg3, hg5])) ?_; simp only [go_sem, seval]; apply z; refine zai ?_; obtain ⟨y4, hy4, h⟩ := bind_some h; refine zbg 50 [] [] rfl (fun E' m' => E' 0 = .lit (.bool y4) /\ m'.gl = m.gl /\ m'.hp = m.hp /\ m.back q m' = m) ?_ ?_
 ·rcases za0 (x1.2.1 == (0 : Int)) with c5 | c5
  ·replace hy4 := zaF c5 hy4
   rcases za0 ((x1.1.zay.length : Int) == (1 : Int)) with c6 | c6
   ·replace hy4 := zaF c6 hy4; obtain ⟨x7, h11, hy4⟩ := bind_some hy4; obtain ⟨f8, f9, f10⟩ := zaz h11; have f12 : x1.1.zay[0]? = some x7 := f10
    rcases za0 ((x7.za9.length : Int) == (2 : Int)) with c13 | c13
    ·replace hy4 := zaF c13 hy4
     rcases za0 ((x7.zb1.length : Int) == (1 : Int)) with c14 | c14
     ·replace hy4 := zaF c14 hy4; obtain ⟨x15, h19, hy4⟩ := bind_some hy4; obtain ⟨f16, f17, f18⟩ := zaz h19; have f20 : x7.zb1[0]? = some x15 := f18; refine zap fun _ z => ?_; simp only [go_sem, seval, c5, c6, f8, f9, f12, c13, c14, f17, f20]; apply z; obtain rfl := zah hy4; refine ⟨by decide, ?_⟩; simp only [go_sem, ↓reduceIte, zao, zaj, hgh]
     ·replace hy4 := zaG c14 hy4; refine zap fun _ z => ?_; simp only [go_sem, seval, c5, c6, f8, f9, f12, c13, c14]; apply z; obtain rfl := zah hy4; refine ⟨by decide, ?_⟩; simp only [go_sem, ↓reduceIte, zao, zaj, hgh]
    ·replace hy4 := zaG c13 hy4; refine zap fun _ z => ?_; simp only [go_sem, seval, c5, c6, f8, f9, f12, c13]; apply z; obtain rfl := zah hy4; refine ⟨by decide, ?_⟩; simp only [go_sem, ↓reduceIte, zao, zaj, hgh]
   ·replace hy4 := zaG c6 hy4; refine zap fun _ z => ?_; simp only [go_sem, seval, c5, c6]; apply z; obtain rfl := zah hy4; refine ⟨by decide, ?_⟩; simp only [go_sem, ↓reduceIte, zao, zaj, hgh]
  ·replace hy4 := zaG c5 hy4; refine zap fun _ z => ?_; simp only [go_sem, seval, c5]; apply z; obtain rfl := zah hy4; refine ⟨by decide, ?_⟩; simp only [go_sem, ↓reduceIte, zao, zaj, hgh]
 ·intro E21 m22 e23 _; simp only [zac]; refine zaw ?_; obtain rfl := zah h; refine ⟨by simp, ?_⟩; simp only [go_sem, e23]
def ze5 (f : zae -> Option Bool) : Prop := ∀ a0 r, f a0 = some r -> ∀ (q : Pa) (m : M) (vs : List V), vs.map V.weak1 = [.agg ((zae.C a0))] -> SC Tryz.prog 42 vs q m (fun v m' => v = .lit (.bool r) /\ m' = m)
theorem zhB {zbW : zae -> Option Bool} (zhV : ze5 zbW) (n : Nat) : ze5 (zaM zbW n) := by
 intro a0 r h q m vs hv; refine SC.weak ?_; rw [hv]; refine SC_w Tryz.func42 rfl (fun xs w => Tryz.call42 xs w) Tryz.ntmps42 (by kernel_rfl) Tryz.results42 ?_; unfold zaM at h; refine zaq fun _ z => ?_; simp only [go_sem, Nat.reduceAdd]; apply z; refine zai ?_; refine zaq fun _ z => ?_; simp only [go_sem, seval]; apply z; refine zaJ ?_; obtain ⟨y4, hy4, h⟩ := bind_some h; refine zbk [] [] rfl (fun c E' m' => ∃ v3, zb7 zbW a0 c v3 = some y4 /\ E' 1 = .ptr (0 :: q) 0 /\ E' 6 = .list .none (a0.zal.map zae.C) /\ E' 7 = .lit (.int .i64 (a0.zal.length : Int)) /\ E' 8 = .lit (.int .i64 v3) /\ m'.blk (0 :: q) = some ((zae.C a0)) /\ m'.gl = m.gl /\ m.back q m' = m) n ⟨(0 : Int), hy4, ?_⟩ ?_
 ·simp only [go_sem, seval, zao, zaj]
 rintro i2 c5 E6 m7 ⟨v3, hy4, e8⟩ _
 rcases c5 with _ | c5
 ·exact absurd hy4 (by rw [zb7]; exact fun e => nomatch e)
 rw [zb7] at hy4; refine zaq fun _ z => ?_; simp only [go_sem, e8]; apply z; refine zai ?_; refine zcq (decide (v3 < (a0.zal.length : Int))) (by simp only [go_sem, ↓reduceIte]) (fun c9 => ?_) (fun c9 => ?_)
 ·replace hy4 := zaF c9 hy4; refine zaA ?_
  try simp only [zac]
  refine zai ?_; refine zaJ ?_; refine zai ?_; obtain ⟨x10, h15, hy4⟩ := bind_some hy4; obtain ⟨f12, f13, f14⟩ := zaz h15; refine zap fun _ z => ?_; simp only [go_sem, seval, f12, f13, f14, e8]; apply z; refine zai ?_; obtain ⟨x16, h17, hy4⟩ := bind_some hy4; refine zap fun _ z => ?_; simp only [go_sem, seval]; refine SC.by_ (zhV x10 _ h17 _ _ _ (by simp only [go_sem])) ?_; simp only [go_sem, seval]; apply z; refine zbP (!x16) (fun c18 => ?_) (fun c18 => ?_)
  ·replace hy4 := zaF c18 hy4; refine zaq fun _ z => ?_; simp only [go_sem, Nat.reduceAdd, c18]; apply z; refine zaw ?_
   try simp only [zaB, zaN]
   obtain rfl := zah hy4; simp only [Sum.elim_inr] at h; obtain rfl := zah h; refine ⟨by simp, ?_⟩; simp only [go_sem, ↓reduceIte, zao, e8]
  ·replace hy4 := zaG c18 hy4; refine zaA ?_
   try simp only [zac, zas]
   refine zap fun _ z => ?_; simp only [go_sem, seval, c18, e8]; apply z; refine ⟨c5, Nat.lt_succ_self _, (IntKind.i64.wrap (v3 + (1 : Int))), hy4, ?_⟩; simp only [go_sem, seval, zao, e8]
 ·replace hy4 := zaG c9 hy4; refine zbT ?_
  try simp only [zaT, zaO, ↓reduceIte, zac]
  obtain rfl := zah hy4; simp only [Sum.elim_inl] at h; refine zai ?_; refine zaq fun _ z => ?_; simp only [go_sem, seval, c9, e8]; apply z; refine zaJ ?_; refine zaq fun _ z => ?_; simp only [go_sem, seval]; apply z; refine zcq (decide (a0.Op_ = ([105, 110, 100, 101, 120] : Str))) (by simp only [go_sem, ↓reduceIte]) (fun c19 => ?_) (fun c19 => ?_)
  ·replace h := zaF c19 h; refine zai ?_; obtain ⟨y20, hy20, h⟩ := bind_some h; refine zbg 24 [] [] rfl (fun E' m' => E' 2 = .lit (.bool y20) /\ m'.gl = m.gl /\ m.back q m' = m) ?_ ?_
   ·rcases za0 ((a0.zal.length : Int) == (1 : Int)) with c21 | c21
    ·replace hy20 := zaF c21 hy20; obtain ⟨x22, h26, hy20⟩ := bind_some hy20; obtain ⟨f23, f24, f25⟩ := zaz h26; have f27 : a0.zal[0]? = some x22 := f25; refine zap fun _ z => ?_; simp only [go_sem, seval, c19, c21, f23, f24, f27, e8]; apply z; obtain rfl := zah hy20; refine ⟨by decide, ?_⟩; simp only [go_sem, ↓reduceIte, e8]
    ·replace hy20 := zaG c21 hy20; refine zap fun _ z => ?_; simp only [go_sem, seval, c19, c21, e8]; apply z; obtain rfl := zah hy20; refine ⟨by decide, ?_⟩; simp only [go_sem, ↓reduceIte, e8]
   ·intro E28 m29 e30 _; simp only [zac]; refine zaw ?_
    try simp only [zaB, zaN]
    obtain rfl := zah h; refine ⟨by simp, ?_⟩; simp only [go_sem, e30]
  ·replace h := zaG c19 h; refine zai ?_; refine zaq fun _ z => ?_; simp only [go_sem, seval, c19]; apply z; refine zcq (decide (a0.Op_ = ([47] : Str))) (by simp only [go_sem, ↓reduceIte]) (fun c31 => ?_) (fun c31 => ?_)
   ·replace h := zaF c31 h; refine zaA ?_
    try simp only [zac]
    refine zfd true (by simp only [go_sem, ↓reduceIte, c31]) ?_; simp only [↓reduceIte]; refine zai ?_; obtain ⟨y32, hy32, h⟩ := bind_some h; refine zbg 34 [] [] rfl (fun E' m' => E' 2 = .lit (.bool y32) /\ m'.gl = m.gl /\ m.back q m' = m) ?_ ?_
    ·rcases za0 ((a0.zal.length : Int) == (2 : Int)) with c33 | c33
     ·replace hy32 := zaF c33 hy32; obtain ⟨x34, h38, hy32⟩ := bind_some hy32; obtain ⟨f35, f36, f37⟩ := zaz h38; have f39 : a0.zal[0]? = some x34 := f37
      rcases za0 (x34.za7 == (1 : Int)) with c40 | c40
      ·replace hy32 := zaF c40 hy32; obtain ⟨x41, h45, hy32⟩ := bind_some hy32; obtain ⟨f42, f43, f44⟩ := zaz h45; have f46 : a0.zal[1]? = some x41 := f44; refine zap fun _ z => ?_; simp only [go_sem, seval, Int.reduceToNat, c31, c33, f35, f36, f39, c40, f42, f43, f46, e8]; apply z; obtain rfl := zah hy32; refine ⟨by decide, ?_⟩; simp only [go_sem, ↓reduceIte, e8]
      ·replace hy32 := zaG c40 hy32; refine zap fun _ z => ?_; simp only [go_sem, seval, c31, c33, f35, f36, f39, c40, e8]; apply z; obtain rfl := zah hy32; refine ⟨by decide, ?_⟩; simp only [go_sem, ↓reduceIte, e8]
     ·replace hy32 := zaG c33 hy32; refine zap fun _ z => ?_; simp only [go_sem, seval, c31, c33, e8]; apply z; obtain rfl := zah hy32; refine ⟨by decide, ?_⟩; simp only [go_sem, ↓reduceIte, e8]
    ·intro E47 m48 e49 _; simp only [zac]; refine zaw ?_
     try simp only [zaB, zaN]
     obtain rfl := zah h; refine ⟨by simp, ?_⟩; simp only [go_sem, e49]
   ·replace h := zaG c31 h; refine zap fun _ z => ?_; simp only [go_sem, seval, c31]; apply z; refine zcq (decide (a0.Op_ = ([37] : Str))) (by simp only [go_sem, ↓reduceIte]) (fun c50 => ?_) (fun c50 => ?_)
    ·replace h := zaF c50 h; refine zai ?_; obtain ⟨y51, hy51, h⟩ := bind_some h; refine zbg 36 [] [] rfl (fun E' m' => E' 2 = .lit (.bool y51) /\ m'.gl = m.gl /\ m.back q m' = m) ?_ ?_
     ·rcases za0 ((a0.zal.length : Int) == (2 : Int)) with c52 | c52
      ·replace hy51 := zaF c52 hy51; obtain ⟨x53, h57, hy51⟩ := bind_some hy51; obtain ⟨f54, f55, f56⟩ := zaz h57; have f58 : a0.zal[0]? = some x53 := f56
       rcases za0 (x53.za7 == (1 : Int)) with c59 | c59
       ·replace hy51 := zaF c59 hy51; obtain ⟨x60, h64, hy51⟩ := bind_some hy51; obtain ⟨f61, f62, f63⟩ := zaz h64; have f65 : a0.zal[1]? = some x60 := f63; refine zap fun _ z => ?_; simp only [go_sem, seval, Int.reduceToNat, c50, c52, f54, f55, f58, c59, f61, f62, f65, e8]; apply z; obtain rfl := zah hy51; refine ⟨by decide, ?_⟩; simp only [go_sem, ↓reduceIte, e8]
       ·replace hy51 := zaG c59 hy51; refine zap fun _ z => ?_; simp only [go_sem, seval, c50, c52, f54, f55, f58, c59, e8]; apply z; obtain rfl := zah hy51; refine ⟨by decide, ?_⟩; simp only [go_sem, ↓reduceIte, e8]
      ·replace hy51 := zaG c52 hy51; refine zap fun _ z => ?_; simp only [go_sem, seval, c50, c52, e8]; apply z; obtain rfl := zah hy51; refine ⟨by decide, ?_⟩; simp only [go_sem, ↓reduceIte, e8]
     ·intro E66 m67 e68 _; simp only [zac]; refine zaw ?_
      try simp only [zaB, zaN]
      obtain rfl := zah h; refine ⟨by simp, ?_⟩; simp only [go_sem, e68]
    ·replace h := zaG c50 h; refine zai ?_; refine zaq fun _ z => ?_; simp only [go_sem, seval, c50]; apply z; refine zcq (decide (a0.Op_ = ([60, 60] : Str))) (by simp only [go_sem, ↓reduceIte]) (fun c69 => ?_) (fun c69 => ?_)
     ·replace h := zaF c69 h; refine zaA ?_
      try simp only [zac]
      refine zfd true (by simp only [go_sem, ↓reduceIte, c69]) ?_; simp only [↓reduceIte]; refine zai ?_; obtain ⟨y70, hy70, h⟩ := bind_some h; refine zbg 30 [] [] rfl (fun E' m' => E' 2 = .lit (.bool y70) /\ m'.gl = m.gl /\ m.back q m' = m) ?_ ?_
      ·rcases za0 ((a0.zal.length : Int) == (2 : Int)) with c71 | c71
       ·replace hy70 := zaF c71 hy70; obtain ⟨x72, h76, hy70⟩ := bind_some hy70; obtain ⟨f73, f74, f75⟩ := zaz h76; have f77 : a0.zal[1]? = some x72 := f75; refine zap fun _ z => ?_; simp only [go_sem, seval, Int.reduceToNat, c69, c71, f73, f74, f77, e8]; apply z; obtain rfl := zah hy70; refine ⟨by decide, ?_⟩; simp only [go_sem, ↓reduceIte, e8]
       ·replace hy70 := zaG c71 hy70; refine zap fun _ z => ?_; simp only [go_sem, seval, c69, c71, e8]; apply z; obtain rfl := zah hy70; refine ⟨by decide, ?_⟩; simp only [go_sem, ↓reduceIte, e8]
      ·intro E78 m79 e80 _; simp only [zac]; refine zaw ?_
       try simp only [zaB, zaN]
       obtain rfl := zah h; refine ⟨by simp, ?_⟩; simp only [go_sem, e80]
     ·replace h := zaG c69 h; refine zaq fun _ z => ?_; simp only [go_sem, seval, c69]; apply z; refine zcq (decide (a0.Op_ = ([62, 62] : Str))) (by simp only [go_sem, ↓reduceIte]) (fun c81 => ?_) (fun c81 => ?_)
      ·replace h := zaF c81 h; refine zaA ?_
       try simp only [zac]
       refine zfd true (by simp only [go_sem, ↓reduceIte, c81]) ?_; simp only [↓reduceIte]; refine zai ?_; obtain ⟨y82, hy82, h⟩ := bind_some h; refine zbg 32 [] [] rfl (fun E' m' => E' 2 = .lit (.bool y82) /\ m'.gl = m.gl /\ m.back q m' = m) ?_ ?_
       ·rcases za0 ((a0.zal.length : Int) == (2 : Int)) with c83 | c83
        ·replace hy82 := zaF c83 hy82; obtain ⟨x84, h88, hy82⟩ := bind_some hy82; obtain ⟨f85, f86, f87⟩ := zaz h88; have f89 : a0.zal[1]? = some x84 := f87; refine zap fun _ z => ?_; simp only [go_sem, seval, Int.reduceToNat, c81, c83, f85, f86, f89, e8]; apply z; obtain rfl := zah hy82; refine ⟨by decide, ?_⟩; simp only [go_sem, ↓reduceIte, e8]
        ·replace hy82 := zaG c83 hy82; refine zap fun _ z => ?_; simp only [go_sem, seval, c81, c83, e8]; apply z; obtain rfl := zah hy82; refine ⟨by decide, ?_⟩; simp only [go_sem, ↓reduceIte, e8]
       ·intro E90 m91 e92 _; simp only [zac]; refine zaw ?_
        try simp only [zaB, zaN]
        obtain rfl := zah h; refine ⟨by simp, ?_⟩; simp only [go_sem, e92]
      ·replace h := zaG c81 h; refine zap fun _ z => ?_; simp only [go_sem, seval, c81]; apply z; refine zcq (decide (a0.Op_ = ([60, 60, 60] : Str))) (by simp only [go_sem, ↓reduceIte]) (fun c93 => ?_) (fun c93 => ?_)
       ·replace h := zaF c93 h; refine zai ?_; obtain ⟨y94, hy94, h⟩ := bind_some h; refine zbg 34 [] [] rfl (fun E' m' => E' 2 = .lit (.bool y94) /\ m'.gl = m.gl /\ m.back q m' = m) ?_ ?_
        ·rcases za0 ((a0.zal.length : Int) == (2 : Int)) with c95 | c95
         ·replace hy94 := zaF c95 hy94; obtain ⟨x96, h100, hy94⟩ := bind_some hy94; obtain ⟨f97, f98, f99⟩ := zaz h100; have f101 : a0.zal[1]? = some x96 := f99; refine zap fun _ z => ?_; simp only [go_sem, seval, Int.reduceToNat, c93, c95, f97, f98, f101, e8]; apply z; obtain rfl := zah hy94; refine ⟨by decide, ?_⟩; simp only [go_sem, ↓reduceIte, e8]
         ·replace hy94 := zaG c95 hy94; refine zap fun _ z => ?_; simp only [go_sem, seval, c93, c95, e8]; apply z; obtain rfl := zah hy94; refine ⟨by decide, ?_⟩; simp only [go_sem, ↓reduceIte, e8]
        ·intro E102 m103 e104 _; simp only [zac]; refine zaw ?_
         try simp only [zaB, zaN]
         obtain rfl := zah h; refine ⟨by simp, ?_⟩; simp only [go_sem, e104]
       ·replace h := zaG c93 h; refine zaA ?_
        try simp only [zac, zas]
        refine zaq fun _ z => ?_; simp only [go_sem, Nat.reduceAdd, c93]; apply z; refine zaw ?_; obtain rfl := zah h; refine ⟨by simp, ?_⟩; simp only [go_sem, ↓reduceIte, e8]
theorem zei : ∀ n, ze5 (za3 n)
 | 0 => fun _ _ h => zcg h
 | n + 1 => zhB (zei n) n
def zeY (f : zae -> (List zan) -> Option Bool) : Prop := ∀ a0 a1 r, f a0 a1 = some r -> ∀ (q : Pa) (m : M) (vs : List V), vs.map V.weak1 = [.agg ((zae.C a0)), .list .none (a1.map zan.C)] -> SC Tryz.prog 43 vs q m (fun v m' => v = .lit (.bool r) /\ m' = m)
theorem zhh {zbQ : zae -> (List zan) -> Option Bool} (zhw : zeY zbQ) (n : Nat) : zeY (zcu zbQ n) := by
 intro a0 a1 r h q m vs hv; refine SC.weak ?_; rw [hv]; refine SC_w Tryz.func43 rfl (fun xs w => Tryz.call43 xs w) Tryz.ntmps43 (by kernel_rfl) Tryz.results43 ?_; unfold zcu at h; refine zaq fun _ z => ?_; simp only [go_sem, Nat.reduceAdd]; apply z; refine zai ?_; refine zai ?_; obtain ⟨y2, hy2, h⟩ := bind_some h; refine zbg 36 [] [] rfl (fun E' m' => E' 1 = .list .none (a1.map zan.C) /\ E' 2 = .ptr (0 :: q) 0 /\ E' 40 = .lit (.bool y2) /\ m'.blk (0 :: q) = some ((zae.C a0)) /\ m'.gl = m.gl /\ m.back q m' = m) ?_ ?_
 ·rcases za0 (decide (a0.Op_ = ([118, 97, 114] : Str))) with c3 | c3
  ·replace hy2 := zaF c3 hy2
   rcases za0 (decide (a0.Var_ < (0 : Int))) with c4 | c4
   ·replace hy2 := zaF c4 hy2; refine zap fun _ z => ?_; simp only [go_sem, seval, c3, c4]; apply z; obtain rfl := zah hy2; refine ⟨by decide, ?_⟩; simp only [go_sem, seval, zao, zaj]
   ·replace hy2 := zaG c4 hy2
    rcases za0 (decide ((a1.length : Int) <= a0.Var_)) with c5 | c5
    ·replace hy2 := zaF c5 hy2; refine zap fun _ z => ?_; simp only [go_sem, seval, c3, c4, c5]; apply z; obtain rfl := zah hy2; refine ⟨by decide, ?_⟩; simp only [go_sem, seval, zao, zaj]
    ·replace hy2 := zaG c5 hy2; obtain ⟨x6, h10, hy2⟩ := bind_some hy2; obtain ⟨f7, f8, f9⟩ := zaz h10
     rcases za0 (x6.zaY != (1 : Int)) with c11 | c11
     ·replace hy2 := zaF c11 hy2; refine zap fun _ z => ?_; simp only [go_sem, seval, c3, c4, c5, f7, f8, f9, c11]; apply z; obtain rfl := zah hy2; refine ⟨by decide, ?_⟩; simp only [go_sem, seval, zao, zaj]
     ·replace hy2 := zaG c11 hy2
      rcases za0 (decide (a0.Op_ = ([105, 110, 100, 101, 120] : Str))) with c12 | c12
      ·replace hy2 := zaF c12 hy2; refine zap fun _ z => ?_; simp only [go_sem, seval, c3, c4, c5, f7, f8, f9, c11, c12]; apply z; obtain rfl := zah hy2; refine ⟨by decide, ?_⟩; simp only [go_sem, seval, zao, zaj]
      ·replace hy2 := zaG c12 hy2; refine zap fun _ z => ?_; simp only [go_sem, seval, c3, c4, c5, f7, f8, f9, c11, c12]; apply z; obtain rfl := zah hy2; refine ⟨by decide, ?_⟩; simp only [go_sem, seval, zao, zaj]
  ·replace hy2 := zaG c3 hy2
   rcases za0 (decide (a0.Op_ = ([105, 110, 100, 101, 120] : Str))) with c13 | c13
   ·replace hy2 := zaF c13 hy2; refine zap fun _ z => ?_; simp only [go_sem, seval, c3, c13]; apply z; obtain rfl := zah hy2; refine ⟨by decide, ?_⟩; simp only [go_sem, seval, zao, zaj]
   ·replace hy2 := zaG c13 hy2; refine zap fun _ z => ?_; simp only [go_sem, seval, c3, c13]; apply z; obtain rfl := zah hy2; refine ⟨by decide, ?_⟩; simp only [go_sem, seval, zao, zaj]
 ·intro E14 m15 e16 _; simp only [zac]; refine zcq y2 (by simp only [go_sem, e16]) (fun c17 => ?_) (fun c17 => ?_)
  ·replace h := zaF c17 h; refine zaq fun _ z => ?_; simp only [go_sem, Nat.reduceAdd]; apply z; refine zaw ?_
   try simp only [zaB]
   obtain rfl := zah h; refine ⟨by simp, ?_⟩; simp only [go_sem, ↓reduceIte, e16]
  ·replace h := zaG c17 h; refine zaA ?_
   try simp only [zac]
   refine zai ?_; refine zaq fun _ z => ?_; simp only [go_sem, seval, e16]; apply z; refine zaJ ?_; obtain ⟨y20, hy20, h⟩ := bind_some h; refine zbk [] [] rfl (fun c E' m' => ∃ v19, zck zbQ a0 a1 c v19 = some y20 /\ E' 1 = .list .none (a1.map zan.C) /\ E' 42 = .list .none (a0.zal.map zae.C) /\ E' 43 = .lit (.int .i64 (a0.zal.length : Int)) /\ E' 44 = .lit (.int .i64 v19) /\ m'.gl = m.gl /\ m.back q m' = m) n ⟨(0 : Int), hy20, ?_⟩ ?_
   ·simp only [go_sem, seval, e16]
   rintro i18 c21 E22 m23 ⟨v19, hy20, e24⟩ _
   rcases c21 with _ | c21
   ·exact absurd hy20 (by rw [zck]; exact fun e => nomatch e)
   rw [zck] at hy20; refine zaq fun _ z => ?_; simp only [go_sem, e24]; apply z; refine zai ?_; refine zcq (decide (v19 < (a0.zal.length : Int))) (by simp only [go_sem, ↓reduceIte]) (fun c25 => ?_) (fun c25 => ?_)
   ·replace hy20 := zaF c25 hy20; refine zaA ?_
    try simp only [zac]
    refine zai ?_; refine zaJ ?_; refine zai ?_; obtain ⟨x26, h31, hy20⟩ := bind_some hy20; obtain ⟨f28, f29, f30⟩ := zaz h31; refine zap fun _ z => ?_; simp only [go_sem, seval, f28, f29, f30, e24]; apply z; refine zai ?_; obtain ⟨x32, h33, hy20⟩ := bind_some hy20; refine zap fun _ z => ?_; simp only [go_sem, seval, e24]; refine SC.by_ (zhw x26 a1 _ h33 _ _ _ (by simp only [go_sem])) ?_; simp only [go_sem, seval]; apply z; refine zbP (!x32) (fun c34 => ?_) (fun c34 => ?_)
    ·replace hy20 := zaF c34 hy20; refine zaq fun _ z => ?_; simp only [go_sem, Nat.reduceAdd, c34]; apply z; refine zaw ?_
     try simp only [zaB, zaN]
     obtain rfl := zah hy20; simp only [Sum.elim_inr] at h; obtain rfl := zah h; refine ⟨by simp, ?_⟩; simp only [go_sem, ↓reduceIte, zao, e24]
    ·replace hy20 := zaG c34 hy20; refine zaA ?_
     try simp only [zac, zas]
     refine zap fun _ z => ?_; simp only [go_sem, seval, c34, e24]; apply z; refine ⟨c21, Nat.lt_succ_self _, (IntKind.i64.wrap (v19 + (1 : Int))), hy20, ?_⟩; simp only [go_sem, seval, zao, e24]
   ·replace hy20 := zaG c25 hy20; refine zbT ?_
    try simp only [zaT, zaO, ↓reduceIte, zac]
    obtain rfl := zah hy20; simp only [Sum.elim_inl] at h; refine zaq fun _ z => ?_; simp only [go_sem, Nat.reduceAdd, c25]; apply z; refine zaw ?_; obtain rfl := zah h; refine ⟨by simp, ?_⟩; simp only [go_sem, ↓reduceIte, e24]
theorem zfI : ∀ n, zeY (zbp n)
 | 0 => fun _ _ _ h => zcg h
 | n + 1 => zhh (zfI n) n
def zeX (f : (List zaf) -> (List zan) -> Option Bool) : Prop := ∀ a0 a1 r, f a0 a1 = some r -> ∀ (q : Pa) (m : M) (vs : List V), vs.map V.weak1 = [.list .none (a0.map zaf.C), .list .none (a1.map zan.C)] -> SC Tryz.prog 15 vs q m (fun v m' => v = .lit (.bool r) /\ m' = m)
theorem zhg {zbD : (List zaf) -> (List zan) -> Option Bool} (zey : zeX zbD) (n : Nat) : zeX (zdq zbD n) := by
 intro a0 a1 r h q m vs hv; refine SC.weak ?_; rw [hv]; refine SC_w Tryz.func15 rfl (fun xs w => Tryz.call15 xs w) Tryz.ntmps15 (by kernel_rfl) Tryz.results15 ?_; unfold zdq at h; refine zaq fun _ z => ?_; simp only [go_sem]; apply z; refine zai ?_; refine zaq fun _ z => ?_; simp only [go_sem, seval]; apply z; refine zaJ ?_; obtain ⟨y3, hy3, h⟩ := bind_some h; refine zbk [] [] rfl (fun c E' m' => ∃ v2, zcj zbD n a0 a1 c v2 = some y3 /\ E' 1 = .list .none (a1.map zan.C) /\ E' 10 = .list .none (a0.map zaf.C) /\ E' 11 = .lit (.int .i64 (a0.length : Int)) /\ E' 12 = .lit (.int .i64 v2) /\ m'.gl = m.gl /\ m.back q m' = m) n ⟨(0 : Int), hy3, ?_⟩ ?_
 ·simp only [go_sem, seval, zaj]
 rintro i1 c4 E5 m6 ⟨v2, hy3, e7⟩ _
 rcases c4 with _ | c4
 ·exact absurd hy3 (by rw [zcj]; exact fun e => nomatch e)
 rw [zcj] at hy3; refine zaq fun _ z => ?_; simp only [go_sem, e7]; apply z; refine zai ?_; refine zcq (decide (v2 < (a0.length : Int))) (by simp only [go_sem, ↓reduceIte]) (fun c8 => ?_) (fun c8 => ?_)
 ·replace hy3 := zaF c8 hy3; refine zaA ?_
  try simp only [zac]
  refine zai ?_; refine zaJ ?_; refine zai ?_; obtain ⟨x9, h14, hy3⟩ := bind_some hy3; obtain ⟨f11, f12, f13⟩ := zaz h14; refine zap fun _ z => ?_; simp only [go_sem, seval, f11, f12, f13, e7]; apply z; refine zai ?_; refine zaq fun _ z => ?_; simp only [go_sem, seval]; apply z; refine zaJ ?_; obtain ⟨y17, hy17, hy3⟩ := bind_some hy3; refine zbk [] [] rfl (fun c E' m' => ∃ v16, zbK n x9 a1 c v16 = some y17 /\ E' 1 = .list .none (a1.map zan.C) /\ E' 6 = .ptr (3 :: i1 :: 4 :: q) 0 /\ E' 10 = .list .none (a0.map zaf.C) /\ E' 11 = .lit (.int .i64 (a0.length : Int)) /\ E' 12 = .lit (.int .i64 v2) /\ E' 17 = .list .none (x9.zal.map zae.C) /\ E' 18 = .lit (.int .i64 (x9.zal.length : Int)) /\ E' 19 = .lit (.int .i64 v16) /\ m'.blk (3 :: i1 :: 4 :: q) = some ((zaf.C x9)) /\ m'.gl = m.gl /\ m.back q m' = m) n ⟨(0 : Int), hy17, ?_⟩ ?_
  ·simp only [go_sem, seval, zao, e7]
  rintro i15 c18 E19 m20 ⟨v16, hy17, e21⟩ _
  rcases c18 with _ | c18
  ·exact absurd hy17 (by rw [zbK]; exact fun e => nomatch e)
  rw [zbK] at hy17; refine zaq fun _ z => ?_; simp only [go_sem, e21]; apply z; refine zai ?_; refine zcq (decide (v16 < (x9.zal.length : Int))) (by simp only [go_sem, ↓reduceIte]) (fun c22 => ?_) (fun c22 => ?_)
  ·replace hy17 := zaF c22 hy17; refine zaA ?_
   try simp only [zac]
   refine zai ?_; refine zaJ ?_; refine zai ?_; obtain ⟨x23, h28, hy17⟩ := bind_some hy17; obtain ⟨f25, f26, f27⟩ := zaz h28; refine zap fun _ z => ?_; simp only [go_sem, seval, f25, f26, f27, e21]; apply z; refine zai ?_; obtain ⟨y29, hy29, hy17⟩ := bind_some hy17; refine zbg 30 [] [] rfl (fun E' m' => E' 1 = .list .none (a1.map zan.C) /\ E' 6 = .ptr (3 :: i1 :: 4 :: q) 0 /\ E' 8 = .ptr (4 :: i15 :: 9 :: i1 :: 4 :: q) 0 /\ E' 9 = .lit (.bool y29) /\ E' 10 = .list .none (a0.map zaf.C) /\ E' 11 = .lit (.int .i64 (a0.length : Int)) /\ E' 12 = .lit (.int .i64 v2) /\ E' 17 = .list .none (x9.zal.map zae.C) /\ E' 18 = .lit (.int .i64 (x9.zal.length : Int)) /\ E' 19 = .lit (.int .i64 v16) /\ m'.blk (3 :: i1 :: 4 :: q) = some ((zaf.C x9)) /\ m'.blk (4 :: i15 :: 9 :: i1 :: 4 :: q) = some ((zae.C x23)) /\ m'.gl = m.gl /\ m.back q m' = m) ?_ ?_
   ·rcases za0 (decide (x9.Op_ = ([108, 101, 116] : Str))) with c30 | c30
    ·replace hy29 := zaF c30 hy29; refine zap fun _ z => ?_; simp only [go_sem, seval, c30, e21]; apply z; obtain rfl := zah hy29; refine ⟨by decide, ?_⟩; simp only [go_sem, seval, zao, e21]
    ·replace hy29 := zaG c30 hy29
     rcases za0 (decide (x9.Op_ = ([105, 102] : Str))) with c31 | c31
     ·replace hy29 := zaF c31 hy29; refine zap fun _ z => ?_; simp only [go_sem, seval, c30, c31, e21]; apply z; obtain rfl := zah hy29; refine ⟨by decide, ?_⟩; simp only [go_sem, seval, zao, e21]
     ·replace hy29 := zaG c31 hy29
      rcases za0 (decide (x9.Op_ = ([102, 111, 114] : Str))) with c32 | c32
      ·replace hy29 := zaF c32 hy29; refine zap fun _ z => ?_; simp only [go_sem, seval, c30, c31, c32, e21]; apply z; obtain rfl := zah hy29; refine ⟨by decide, ?_⟩; simp only [go_sem, seval, zao, e21]
      ·replace hy29 := zaG c32 hy29
       rcases za0 (decide (x9.Op_ = ([112, 117, 116] : Str))) with c33 | c33
       ·replace hy29 := zaF c33 hy29; refine zap fun _ z => ?_; simp only [go_sem, seval, c30, c31, c32, c33, e21]; apply z; obtain rfl := zah hy29; refine ⟨by decide, ?_⟩; simp only [go_sem, seval, zao, e21]
       ·replace hy29 := zaG c33 hy29; refine zap fun _ z => ?_; simp only [go_sem, seval, c30, c31, c32, c33, e21]; apply z; obtain rfl := zah hy29; refine ⟨by decide, ?_⟩; simp only [go_sem, seval, zao, e21]
   ·intro E34 m35 e36 _; simp only [zac]; refine zai ?_; obtain ⟨y37, hy37, hy17⟩ := bind_some hy17; refine zbg 42 [] [] rfl (fun E' m' => E' 1 = .list .none (a1.map zan.C) /\ E' 6 = .ptr (3 :: i1 :: 4 :: q) 0 /\ E' 10 = .list .none (a0.map zaf.C) /\ E' 11 = .lit (.int .i64 (a0.length : Int)) /\ E' 12 = .lit (.int .i64 v2) /\ E' 17 = .list .none (x9.zal.map zae.C) /\ E' 18 = .lit (.int .i64 (x9.zal.length : Int)) /\ E' 19 = .lit (.int .i64 v16) /\ E' 57 = .lit (.bool y37) /\ m'.blk (3 :: i1 :: 4 :: q) = some ((zaf.C x9)) /\ m'.gl = m.gl /\ m.back q m' = m) ?_ ?_
    ·obtain ⟨x38, h39, hy37⟩ := bind_some hy37
     rcases za0 (!x38) with c40 | c40
     ·replace hy37 := zaF c40 hy37; refine zap fun _ z => ?_; simp only [go_sem, seval, e36]; refine SC.by_ (zei n x23 _ h39 _ _ _ (by simp only [go_sem])) ?_; simp only [go_sem, seval, c40]; apply z; obtain rfl := zah hy37; refine ⟨by decide, ?_⟩; simp only [go_sem, seval, e36]
     ·replace hy37 := zaG c40 hy37
      rcases za0 y29 with c41 | c41
      ·replace hy37 := zaF c41 hy37; obtain ⟨x42, h43, hy37⟩ := bind_some hy37; refine zap fun _ z => ?_; simp only [go_sem, seval, e36]; refine SC.by_ (zei n x23 _ h39 _ _ _ (by simp only [go_sem])) ?_; simp only [go_sem, seval, c40, c41, e36]; refine SC.by_ (zfI n x23 a1 _ h43 _ _ _ (by simp only [go_sem])) ?_; simp only [go_sem, seval]; apply z; obtain rfl := zah hy37; refine ⟨by decide, ?_⟩; simp only [go_sem, seval, e36]
      ·replace hy37 := zaG c41 hy37; refine zap fun _ z => ?_; simp only [go_sem, seval, e36]; refine SC.by_ (zei n x23 _ h39 _ _ _ (by simp only [go_sem])) ?_; simp only [go_sem, seval, c40, c41, e36]; apply z; obtain rfl := zah hy37; refine ⟨by decide, ?_⟩; simp only [go_sem, seval, e36]
    ·intro E44 m45 e46 _; simp only [zac]; refine zcq y37 (by simp only [go_sem, e46]) (fun c47 => ?_) (fun c47 => ?_)
     ·replace hy17 := zaF c47 hy17; refine zaq fun _ z => ?_; simp only [go_sem, Nat.reduceAdd]; apply z; refine zaw ?_
      try simp only [zaB, zaN]
      obtain rfl := zah hy17; simp only [Sum.elim_inr] at hy3; obtain rfl := zah hy3; simp only [Sum.elim_inr] at h; obtain rfl := zah h; refine ⟨by simp, ?_⟩; simp only [go_sem, ↓reduceIte, e46]
     ·replace hy17 := zaG c47 hy17; refine zaA ?_
      try simp only [zac, zas]
      refine zap fun _ z => ?_; simp only [go_sem, seval, e46]; apply z; refine ⟨c18, Nat.lt_succ_self _, (IntKind.i64.wrap (v16 + (1 : Int))), hy17, ?_⟩; simp only [go_sem, seval, e46]
  ·replace hy17 := zaG c22 hy17; refine zbT ?_
   try simp only [zaT, zaO, ↓reduceIte, zac]
   obtain rfl := zah hy17; simp only [Sum.elim_inl] at hy3; refine zai ?_; obtain ⟨y48, hy48, hy3⟩ := bind_some hy3; refine zbg 22 [] [] rfl (fun E' m' => E' 1 = .list .none (a1.map zan.C) /\ E' 10 = .list .none (a0.map zaf.C) /\ E' 11 = .lit (.int .i64 (a0.length : Int)) /\ E' 12 = .lit (.int .i64 v2) /\ E' 70 = .lit (.bool y48) /\ m'.gl = m.gl /\ m.back q m' = m) ?_ ?_
   ·obtain ⟨x49, h50, hy48⟩ := bind_some hy48
    rcases za0 (!x49) with c51 | c51
    ·replace hy48 := zaF c51 hy48; refine zap fun _ z => ?_; simp only [go_sem, seval, c22, e21]; refine SC.by_ (zey x9.zb1 a1 _ h50 _ _ _ (by simp only [go_sem])) ?_; simp only [go_sem, seval, c51]; apply z; obtain rfl := zah hy48; refine ⟨by decide, ?_⟩; simp only [go_sem, seval, e21]
    ·replace hy48 := zaG c51 hy48; obtain ⟨x52, h53, hy48⟩ := bind_some hy48; refine zap fun _ z => ?_; simp only [go_sem, seval, c22, e21]; refine SC.by_ (zey x9.zb1 a1 _ h50 _ _ _ (by simp only [go_sem])) ?_; simp only [go_sem, seval, c51, e21]; refine SC.by_ (zey x9.zeW a1 _ h53 _ _ _ (by simp only [go_sem])) ?_; simp only [go_sem, seval]; apply z; obtain rfl := zah hy48; refine ⟨by decide, ?_⟩; simp only [go_sem, seval, e21]
   ·intro E54 m55 e56 _; simp only [zac]; refine zcq y48 (by simp only [go_sem, e56]) (fun c57 => ?_) (fun c57 => ?_)
    ·replace hy3 := zaF c57 hy3; refine zaq fun _ z => ?_; simp only [go_sem, Nat.reduceAdd]; apply z; refine zaw ?_
     try simp only [zaB, zaN]
     obtain rfl := zah hy3; simp only [Sum.elim_inr] at h; obtain rfl := zah h; refine ⟨by simp, ?_⟩; simp only [go_sem, ↓reduceIte, e56]
    ·replace hy3 := zaG c57 hy3; refine zaA ?_
     try simp only [zac, zas]
     refine zap fun _ z => ?_; simp only [go_sem, seval, e56]; apply z; refine ⟨c4, Nat.lt_succ_self _, (IntKind.i64.wrap (v2 + (1 : Int))), hy3, ?_⟩; simp only [go_sem, seval, e56]
 ·replace hy3 := zaG c8 hy3; refine zbT ?_
  try simp only [zaT, zaO, ↓reduceIte, zac]
  obtain rfl := zah hy3; simp only [Sum.elim_inl] at h; refine zaq fun _ z => ?_; simp only [go_sem, Nat.reduceAdd, c8]; apply z; refine zaw ?_; obtain rfl := zah h; refine ⟨by simp, ?_⟩; simp only [go_sem, ↓reduceIte, e7]
theorem zfH : ∀ n, zeX (zdj n)
 | 0 => fun _ _ _ h => zcg h
 | n + 1 => zhg (zfH n) n
def zeM (f : (List zae) -> Option (List zar)) : Prop := ∀ a0 r, f a0 = some r -> ∀ (q : Pa) (m : M) (vs : List V), vs.map V.weak1 = [.list .none (a0.map zae.C)] -> SC Tryz.prog 44 vs q m (fun v m' => v = .list .none (r.map zar.C) /\ m' = m)
theorem zg2 {zbL : (List zae) -> Option (List zar)} (zha : zeM zbL) (n : Nat) : zeM (zda zbL n) := by
 intro a0 r h q m vs hv; refine SC.weak ?_; rw [hv]; refine SC_w Tryz.func44 rfl (fun xs w => Tryz.call44 xs w) Tryz.ntmps44 (by kernel_rfl) Tryz.results44 ?_; unfold zda at h; refine zaq fun _ z => ?_; simp only [go_sem]; apply z; refine zaq fun _ z => ?_; simp only [go_sem, Nat.reduceAdd]; apply z; refine zai ?_; refine zaq fun _ z => ?_; simp only [go_sem, seval]; apply z; refine zaJ ?_; obtain ⟨y4, hy4, h⟩ := bind_some h; refine zhf 3 ([].map zar.C) rfl (by simp only [go_sem, seval]) ?_; refine zbk [] [] rfl (fun c E' m' => ∃ v2 v3 o_v2 j_v2, zcd zbL a0 c v2 v3 = some y4 /\ E' 3 = .list (.st (.anon o_v2 j_v2)) (v2.map zar.C) /\ m'.tok o_v2 j_v2 = true /\ q <:+ o_v2 /\ E' 6 = .list .none (a0.map zae.C) /\ E' 7 = .lit (.int .i64 (a0.length : Int)) /\ E' 8 = .lit (.int .i64 v3) /\ m'.gl = m.gl /\ m.back q m' = m) n ⟨[], (0 : Int), (5 :: q), 0, hy4, ?_⟩ ?_
 ·simp only [go_sem, seval, zaS, zaj]
 rintro i1 c5 E6 m7 ⟨v2, v3, o_v2, j_v2, hy4, e8⟩ _
 rcases c5 with _ | c5
 ·exact absurd hy4 (by rw [zcd]; exact fun e => nomatch e)
 rw [zcd] at hy4; refine zaq fun _ z => ?_; simp only [go_sem, Nat.reduceAdd, e8]; apply z; refine zai ?_; refine zcq (decide (v3 < (a0.length : Int))) (by simp only [go_sem, ↓reduceIte]) (fun c9 => ?_) (fun c9 => ?_)
 ·replace hy4 := zaF c9 hy4; refine zaA ?_
  try simp only [zac]
  refine zai ?_; refine zaJ ?_; refine zai ?_; obtain ⟨x10, h15, hy4⟩ := bind_some hy4; obtain ⟨f12, f13, f14⟩ := zaz h15; refine zap fun _ z => ?_; simp only [go_sem, seval, f12, f13, f14, e8]; apply z; refine zai ?_; obtain ⟨f16, hy4⟩ := zaX hy4; have f17 : 1 + x10.Op_.length <= 4611686018427387904 := by first | omega | (simp only [List.length_append, List.length_cons, List.length_nil] at f16 ⊢; omega)
  obtain ⟨f18, hy4⟩ := zaX hy4; have f19 : v2.length + 1 <= 1073741824 := by first | omega | (simp only [List.length_append, List.length_cons, List.length_nil] at f18 ⊢; omega)
  have f20 : v2.length <= 1073741823 := by first | omega | (simp only [List.length_append, List.length_cons, List.length_nil] at f18 ⊢; omega)
  refine zap fun _ z => ?_; simp only [go_sem, seval, f17, f19, e8]; apply z; obtain ⟨x21, h22, hy4⟩ := bind_some hy4; obtain ⟨f23, hy4⟩ := zaX hy4; have f24 : v2.length + 1 + x21.length <= 1073741824 := by first | omega | (simp only [List.length_append, List.length_cons, List.length_nil] at f23 ⊢; omega)
  refine zdF fun _ z => ?_; simp only [go_sem, seval]; refine SC.by_ (zha x10.zal _ h22 _ _ _ (by simp only [go_sem])) ?_; simp only [go_sem, seval, f24]; apply z; simp only [zac, zas]; refine zap fun _ z => ?_; simp only [go_sem, seval, e8]; apply z; refine ⟨c5, Nat.lt_succ_self _, ((v2 ++ [(zar.mk (([61] : Str) ++ x10.Op_) [] x10.za7 (IntKind.i64.wrap x10.N_) x10.Var_ (x10.zal.length : Int) (0 : Int) x10.At_)]) ++ x21), (IntKind.i64.wrap (v3 + (1 : Int))), (29 :: i1 :: 6 :: q), 0, hy4, ?_⟩; simp only [go_sem, seval, zao, zaS, e8]
 ·replace hy4 := zaG c9 hy4; refine zbT ?_
  try simp only [zaT, zaO, ↓reduceIte, zac]
  obtain rfl := zah hy4; refine zaq fun _ z => ?_; simp only [go_sem, seval, c9, e8]; apply z; refine zaw ?_; obtain rfl := zah h; refine ⟨by simp, ?_⟩; simp only [go_sem, ↓reduceIte, e8]
theorem zfy : ∀ n, zeM (zcT n)
 | 0 => fun _ _ h => zcg h
 | n + 1 => zg2 (zfy n) n
def zeL (f : (List zaf) -> Option (List zar)) : Prop := ∀ a0 r, f a0 = some r -> ∀ (q : Pa) (m : M) (vs : List V), vs.map V.weak1 = [.list .none (a0.map zaf.C)] -> SC Tryz.prog 16 vs q m (fun v m' => v = .list .none (r.map zar.C) /\ m' = m)
theorem zg1 {zbA : (List zaf) -> Option (List zar)} (zfl : zeL zbA) (n : Nat) : zeL (zc9 zbA n) := by
 intro a0 r h q m vs hv; refine SC.weak ?_; rw [hv]; refine SC_w Tryz.func16 rfl (fun xs w => Tryz.call16 xs w) Tryz.ntmps16 (by kernel_rfl) Tryz.results16 ?_; unfold zc9 at h; refine zaq fun _ z => ?_; simp only [go_sem]; apply z; refine zaq fun _ z => ?_; simp only [go_sem, Nat.reduceAdd]; apply z; refine zai ?_; refine zaq fun _ z => ?_; simp only [go_sem, seval]; apply z; refine zaJ ?_; obtain ⟨y4, hy4, h⟩ := bind_some h; refine zhf 3 ([].map zar.C) rfl (by simp only [go_sem, seval]) ?_; refine zbk [] [] rfl (fun c E' m' => ∃ v2 v3 o_v2 j_v2, zcc zbA n a0 c v2 v3 = some y4 /\ E' 3 = .list (.st (.anon o_v2 j_v2)) (v2.map zar.C) /\ m'.tok o_v2 j_v2 = true /\ q <:+ o_v2 /\ E' 6 = .list .none (a0.map zaf.C) /\ E' 7 = .lit (.int .i64 (a0.length : Int)) /\ E' 8 = .lit (.int .i64 v3) /\ m'.gl = m.gl /\ m.back q m' = m) n ⟨[], (0 : Int), (5 :: q), 0, hy4, ?_⟩ ?_
 ·simp only [go_sem, seval, zaS, zaj]
 rintro i1 c5 E6 m7 ⟨v2, v3, o_v2, j_v2, hy4, e8⟩ _
 rcases c5 with _ | c5
 ·exact absurd hy4 (by rw [zcc]; exact fun e => nomatch e)
 rw [zcc] at hy4; refine zaq fun _ z => ?_; simp only [go_sem, Nat.reduceAdd, e8]; apply z; refine zai ?_; refine zcq (decide (v3 < (a0.length : Int))) (by simp only [go_sem, ↓reduceIte]) (fun c9 => ?_) (fun c9 => ?_)
 ·replace hy4 := zaF c9 hy4; refine zaA ?_
  try simp only [zac]
  refine zai ?_; refine zaJ ?_; refine zai ?_; obtain ⟨x10, h15, hy4⟩ := bind_some hy4; obtain ⟨f12, f13, f14⟩ := zaz h15; refine zap fun _ z => ?_; simp only [go_sem, seval, f12, f13, f14, e8]; apply z; refine zai ?_; obtain ⟨f16, hy4⟩ := zaX hy4; have f17 : v2.length + 1 <= 1073741824 := by first | omega | (simp only [List.length_append, List.length_cons, List.length_nil] at f16 ⊢; omega)
  have f18 : v2.length <= 1073741823 := by first | omega | (simp only [List.length_append, List.length_cons, List.length_nil] at f16 ⊢; omega)
  refine zap fun _ z => ?_; simp only [go_sem, seval, f17, e8]; apply z; refine zai ?_; obtain ⟨x19, h20, hy4⟩ := bind_some hy4; obtain ⟨f21, hy4⟩ := zaX hy4; have f22 : v2.length + 1 + x19.length <= 1073741824 := by first | omega | (simp only [List.length_append, List.length_cons, List.length_nil] at f21 ⊢; omega)
  refine zap fun _ z => ?_; simp only [go_sem, seval]; refine SC.by_ (zfy n x10.zal _ h20 _ _ _ (by simp only [go_sem])) ?_; simp only [go_sem, seval, f22]; apply z; refine zai ?_; obtain ⟨x23, h24, hy4⟩ := bind_some hy4; obtain ⟨f25, hy4⟩ := zaX hy4; have f26 : v2.length + 1 + x19.length + x23.length <= 1073741824 := by first | omega | (simp only [List.length_append, List.length_cons, List.length_nil] at f25 ⊢; omega)
  refine zap fun _ z => ?_; simp only [go_sem, seval]; refine SC.by_ (zfl x10.zb1 _ h24 _ _ _ (by simp only [go_sem])) ?_; simp only [go_sem, seval, f26]; apply z; obtain ⟨x27, h28, hy4⟩ := bind_some hy4; obtain ⟨f29, hy4⟩ := zaX hy4; have f30 : v2.length + 1 + x19.length + x23.length + x27.length <= 1073741824 := by first | omega | (simp only [List.length_append, List.length_cons, List.length_nil] at f29 ⊢; omega)
  refine zdF fun _ z => ?_; simp only [go_sem, seval]; refine SC.by_ (zfl x10.zeW _ h28 _ _ _ (by simp only [go_sem])) ?_; simp only [go_sem, seval, f30]; apply z; simp only [zac, zas]; refine zap fun _ z => ?_; simp only [go_sem, seval, e8]; apply z; refine ⟨c5, Nat.lt_succ_self _, ((((v2 ++ [(zar.mk x10.Op_ [] x10.Var_ x10.zfe (x10.zal.length : Int) (x10.zb1.length : Int) (x10.zeW.length : Int) x10.At_)]) ++ x19) ++ x23) ++ x27), (IntKind.i64.wrap (v3 + (1 : Int))), (43 :: i1 :: 6 :: q), 0, hy4, ?_⟩; simp only [go_sem, seval, zao, zaS, e8]
 ·replace hy4 := zaG c9 hy4; refine zbT ?_
  try simp only [zaT, zaO, ↓reduceIte, zac]
  obtain rfl := zah hy4; refine zaq fun _ z => ?_; simp only [go_sem, seval, c9, e8]; apply z; refine zaw ?_; obtain rfl := zah h; refine ⟨by simp, ?_⟩; simp only [go_sem, ↓reduceIte, e8]
theorem zfx : ∀ n, zeL (zcS n)
 | 0 => fun _ _ h => zcg h
 | n + 1 => zg1 (zfx n) n
def zgp (f : Str -> Option Bool) : Prop := ∀ a0 r, f a0 = some r -> ∀ (q : Pa) (m : M) (vs : List V), vs.map V.weak1 = [.list .none (zeC a0)] /\ (m.hp = fun _ => none) /\ m.gl 1 = .eptr [(cA zav.C zaW)] 0 0 /\ m.gl 2 = .eptr [(cA cS zbN)] 0 0 /\ m.gl 3 = .eptr [(cA cS zaQ)] 0 0 /\ m.gl 5 = .eptr [(cA (cA cS) zba)] 0 0 -> SC Tryz.prog 3 vs q m (fun v m' => v = .lit (.bool r) /\ m' = m)
theorem zgh (n : Nat) : zgp (zcz n) := by
 rintro a0 r h q m vs ⟨hv, hgh, hg1, hg2, hg3, hg5⟩; refine SC.weak ?_; rw [hv]; refine SC_w Tryz.func3 rfl (fun xs w => Tryz.call3 xs w) Tryz.ntmps3 (by kernel_rfl) Tryz.results3 ?_; unfold zcz at h; refine zaq fun _ z => ?_; simp only [go_sem]; apply z; refine zai ?_; refine zai ?_; obtain ⟨x1, h2, h⟩ := bind_some h; refine zap fun _ z => ?_; simp only [go_sem]; refine SC.by_ (zhi n _ h2 _ _ _ (by simp only [go_sem, hgh, hg1, hg2, hg3, hg5])) ?_; simp only [go_sem, seval]; apply z; refine zbP (!x1) (fun c3 => ?_) (fun c3 => ?_)
 ·replace h := zaF c3 h; refine zaq fun _ z => ?_; simp only [go_sem, Nat.reduceAdd, c3]; apply z; refine zaw ?_
  try simp only [zaB]
  obtain rfl := zah h; refine ⟨by simp, ?_⟩; simp only [go_sem, ↓reduceIte, zaj]
 ·replace h := zaG c3 h; refine zaA ?_
  try simp only [zac]
  refine zai ?_; refine zaq fun _ z => ?_; simp only [go_sem, seval, c3]; apply z; refine zcq (decide ((3000 : Int) < (a0.length : Int))) (by simp only [go_sem, ↓reduceIte]) (fun c4 => ?_) (fun c4 => ?_)
  ·replace h := zaF c4 h; refine zaq fun _ z => ?_; simp only [go_sem, Nat.reduceAdd, c4]; apply z; refine zaw ?_
   try simp only [zaB]
   obtain rfl := zah h; refine ⟨by simp, ?_⟩; simp only [go_sem, ↓reduceIte, zaj]
  ·replace h := zaG c4 h; refine zaA ?_
   try simp only [zac]
   refine zai ?_; obtain ⟨x5, h7, h⟩ := bind_some h; refine zap fun _ z => ?_; simp only [go_sem, seval, c4]; refine SC.by_ (zjt n a0 _ h7 _ _ _ (by simp only [go_sem, hgh, hg1, hg2, hg3, hg5])) ?_; simp only [go_sem, seval]; apply z; refine zai ?_; refine zaq fun _ z => ?_; simp only [go_sem, seval]; apply z; refine zbP (x5.2.1 != (0 : Int)) (fun c8 => ?_) (fun c8 => ?_)
   ·replace h := zaF c8 h; refine zaq fun _ z => ?_; simp only [go_sem, Nat.reduceAdd, c8]; apply z; refine zaw ?_
    try simp only [zaB]
    obtain rfl := zah h; refine ⟨by simp, ?_⟩; simp only [go_sem, ↓reduceIte, zao, zaj]
   ·replace h := zaG c8 h; refine zaA ?_
    try simp only [zac]
    refine zai ?_; refine zaq fun _ z => ?_; simp only [go_sem, seval, c8]; apply z; refine zaJ ?_; obtain ⟨y11, hy11, h⟩ := bind_some h; refine zbk [] [] rfl (fun c E' m' => ∃ v10, zbC n x5 c v10 = some y11 /\ E' 24 = .list .none (x5.1.zay.map zau.C) /\ E' 25 = .lit (.int .i64 (x5.1.zay.length : Int)) /\ E' 26 = .lit (.int .i64 v10) /\ m'.gl = m.gl /\ m'.hp = m.hp /\ m.back q m' = m) n ⟨(0 : Int), hy11, ?_⟩ ?_
    ·simp only [go_sem, seval, zao, zaj, hgh]
    rintro i9 c12 E13 m14 ⟨v10, hy11, e15⟩ _
    rcases c12 with _ | c12
    ·exact absurd hy11 (by rw [zbC]; exact fun e => nomatch e)
    rw [zbC] at hy11; refine zaq fun _ z => ?_; simp only [go_sem, e15]; apply z; refine zai ?_; refine zcq (decide (v10 < (x5.1.zay.length : Int))) (by simp only [go_sem, ↓reduceIte]) (fun c16 => ?_) (fun c16 => ?_)
    ·replace hy11 := zaF c16 hy11; refine zaA ?_
     try simp only [zac]
     refine zai ?_; refine zaJ ?_; refine zai ?_; obtain ⟨x17, h22, hy11⟩ := bind_some hy11; obtain ⟨f19, f20, f21⟩ := zaz h22; refine zap fun _ z => ?_; simp only [go_sem, seval, f19, f20, f21, e15]; apply z; refine zai ?_; refine zai ?_; obtain ⟨x23, h24, hy11⟩ := bind_some hy11; refine zap fun _ z => ?_; simp only [go_sem, seval]; refine SC.by_ (zfH n x17.zb1 x17.za9 _ h24 _ _ _ (by simp only [go_sem])) ?_; simp only [go_sem, seval]; apply z; refine zbP (!x23) (fun c25 => ?_) (fun c25 => ?_)
     ·replace hy11 := zaF c25 hy11; refine zaq fun _ z => ?_; simp only [go_sem, Nat.reduceAdd, c25]; apply z; refine zaw ?_
      try simp only [zaB, zaN]
      obtain rfl := zah hy11; simp only [Sum.elim_inr] at h; obtain rfl := zah h; refine ⟨by simp, ?_⟩; simp only [go_sem, ↓reduceIte, zao, e15]
     ·replace hy11 := zaG c25 hy11; refine zaA ?_
      try simp only [zac]
      refine zai ?_; obtain ⟨x26, h27, hy11⟩ := bind_some hy11; refine zap fun _ z => ?_; simp only [go_sem, seval, c25]; refine SC.by_ (zfx n x17.zb1 _ h27 _ _ _ (by simp only [go_sem])) ?_; simp only [go_sem, seval]; apply z; refine zaJ ?_; obtain ⟨y30, hy30, hy11⟩ := bind_some hy11; refine zbk [] [] rfl (fun c E' m' => ∃ v29, zbl x26 x17 c v29 = some y30 /\ E' 7 = .ptr (3 :: i9 :: 22 :: q) 0 /\ E' 24 = .list .none (x5.1.zay.map zau.C) /\ E' 25 = .lit (.int .i64 (x5.1.zay.length : Int)) /\ E' 26 = .lit (.int .i64 v10) /\ E' 38 = .list .none (x26.map zar.C) /\ E' 39 = .lit (.int .i64 (x26.length : Int)) /\ E' 40 = .lit (.int .i64 v29) /\ m'.blk (3 :: i9 :: 22 :: q) = some ((zau.C x17)) /\ m'.gl = m.gl /\ m'.hp = m.hp /\ m.back q m' = m) n ⟨(0 : Int), hy30, ?_⟩ ?_
      ·simp only [go_sem, seval, zao, e15, hgh]
      rintro i28 c31 E32 m33 ⟨v29, hy30, e34⟩ _
      rcases c31 with _ | c31
      ·exact absurd hy30 (by rw [zbl]; exact fun e => nomatch e)
      rw [zbl] at hy30; refine zaq fun _ z => ?_; simp only [go_sem, e34]; apply z; refine zai ?_; refine zcq (decide (v29 < (x26.length : Int))) (by simp only [go_sem, ↓reduceIte]) (fun c35 => ?_) (fun c35 => ?_)
      ·replace hy30 := zaF c35 hy30; refine zaA ?_
       try simp only [zac]
       refine zai ?_; refine zaJ ?_; refine zai ?_; obtain ⟨x36, h41, hy30⟩ := bind_some hy30; obtain ⟨f38, f39, f40⟩ := zaz h41; refine zap fun _ z => ?_; simp only [go_sem, seval, f38, f39, f40, e34]; apply z; refine zai ?_; obtain ⟨y42, hy42, hy30⟩ := bind_some hy30; refine zbg 41 [] [] rfl (fun E' m' => E' 7 = .ptr (3 :: i9 :: 22 :: q) 0 /\ E' 24 = .list .none (x5.1.zay.map zau.C) /\ E' 25 = .lit (.int .i64 (x5.1.zay.length : Int)) /\ E' 26 = .lit (.int .i64 v10) /\ E' 38 = .list .none (x26.map zar.C) /\ E' 39 = .lit (.int .i64 (x26.length : Int)) /\ E' 40 = .lit (.int .i64 v29) /\ E' 79 = .lit (.bool y42) /\ m'.blk (3 :: i9 :: 22 :: q) = some ((zau.C x17)) /\ m'.gl = m.gl /\ m'.hp = m.hp /\ m.back q m' = m) ?_ ?_
       ·rcases za0 (decide (x36.Tag_ = ([115, 101, 116] : Str))) with c43 | c43
        ·replace hy42 := zaF c43 hy42
         rcases za0 (decide (x36.A_ < (0 : Int))) with c44 | c44
         ·replace hy42 := zaF c44 hy42; refine zap fun _ z => ?_; simp only [go_sem, seval, c43, c44]; apply z; obtain rfl := zah hy42; refine ⟨by decide, ?_⟩; simp only [go_sem, seval, zao, e34, hgh]
         ·replace hy42 := zaG c44 hy42
          rcases za0 (decide ((x17.za9.length : Int) <= x36.A_)) with c45 | c45
          ·replace hy42 := zaF c45 hy42; refine zap fun _ z => ?_; simp only [go_sem, seval, c43, c44, c45, e34]; apply z; obtain rfl := zah hy42; refine ⟨by decide, ?_⟩; simp only [go_sem, seval, zao, e34, hgh]
          ·replace hy42 := zaG c45 hy42; obtain ⟨x46, h50, hy42⟩ := bind_some hy42; obtain ⟨f47, f48, f49⟩ := zaz h50
           rcases za0 (x46.zaY == (1 : Int)) with c51 | c51
           ·replace hy42 := zaF c51 hy42; refine zap fun _ z => ?_; simp only [go_sem, seval, c43, c44, c45, f47, f48, f49, c51, e34]; apply z; obtain rfl := zah hy42; refine ⟨by decide, ?_⟩; simp only [go_sem, seval, zao, e34, hgh]
           ·replace hy42 := zaG c51 hy42; refine zap fun _ z => ?_; simp only [go_sem, seval, c43, c44, c45, f47, f48, f49, c51, e34]; apply z; obtain rfl := zah hy42; refine ⟨by decide, ?_⟩; simp only [go_sem, seval, zao, e34, hgh]
        ·replace hy42 := zaG c43 hy42; refine zap fun _ z => ?_; simp only [go_sem, seval, c43]; apply z; obtain rfl := zah hy42; refine ⟨by decide, ?_⟩; simp only [go_sem, seval, zao, e34, hgh]
       ·intro E52 m53 e54 _; simp only [zac]; refine zcq y42 (by simp only [go_sem, e54]) (fun c55 => ?_) (fun c55 => ?_)
        ·replace hy30 := zaF c55 hy30; refine zaq fun _ z => ?_; simp only [go_sem, Nat.reduceAdd]; apply z; refine zaw ?_
         try simp only [zaB, zaN]
         obtain rfl := zah hy30; simp only [Sum.elim_inr] at hy11; obtain rfl := zah hy11; simp only [Sum.elim_inr] at h; obtain rfl := zah h; refine ⟨by simp, ?_⟩; simp only [go_sem, ↓reduceIte, e54]
        ·replace hy30 := zaG c55 hy30; refine zaA ?_
         try simp only [zac, zas]
         refine zap fun _ z => ?_; simp only [go_sem, seval, e54]; apply z; refine ⟨c31, Nat.lt_succ_self _, (IntKind.i64.wrap (v29 + (1 : Int))), hy30, ?_⟩; simp only [go_sem, seval, e54, hgh]
      ·replace hy30 := zaG c35 hy30; refine zbT ?_
       try simp only [zaT, zaO, ↓reduceIte, zac, zas]
       obtain rfl := zah hy30; simp only [Sum.elim_inl] at hy11; refine zap fun _ z => ?_; simp only [go_sem, seval, c35, e34]; apply z; refine ⟨c12, Nat.lt_succ_self _, (IntKind.i64.wrap (v10 + (1 : Int))), hy11, ?_⟩; simp only [go_sem, seval, e34, hgh]
    ·replace hy11 := zaG c16 hy11; refine zbT ?_
     try simp only [zaT, zaO, ↓reduceIte, zac]
     obtain rfl := zah hy11; simp only [Sum.elim_inl] at h; refine zaq fun _ z => ?_; simp only [go_sem, Nat.reduceAdd, c16]; apply z; refine zaw ?_; obtain rfl := zah h; refine ⟨by simp, ?_⟩; simp only [go_sem, ↓reduceIte, e15]
end Go.Proofs.YtldnmmnnohnpkaaGreatDoor.Abs
