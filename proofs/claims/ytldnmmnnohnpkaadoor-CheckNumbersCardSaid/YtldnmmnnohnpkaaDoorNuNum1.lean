/-
 CheckNumbers: its text's tokens.
-/
import Derived.Test.YtldnmmnnohnpkaaDoorNuTot
import Derived.Test.YtldnmmnnohnpkaaDoorNuGLm
import Derived.KernelRfl
namespace Go.Proofs.YtldnmmnnohnpkaaDoor.Abs
open Go.RowKit
set_option linter.unusedVariables false
theorem encS_dig {u : Nat} (h : u < 10) : encS (IntKind.i32.wrap (IntKind.u32.wrap ((48 : Int) + (u : Int)))) = [UInt8.ofNat (48 + u)] := by
 have : u = 0 ∨ u = 1 ∨ u = 2 ∨ u = 3 ∨ u = 4 ∨ u = 5 ∨ u = 6 ∨ u = 7 ∨ u = 8 ∨ u = 9 := by omega
 rcases this with rfl | rfl | rfl | rfl | rfl | rfl | rfl | rfl | rfl | rfl <;> rfl
theorem zmw : ∀ (k u : Nat) (acc : Str), u < 10 ^ k -> u <= 4294967295 -> acc.length + k <= 100 -> 1 <= k -> za3 k (u : Int) acc = some (Lib.decDigits u ++ acc) := by
 intro k
 induction k with
 | zero => intro u acc h _ _ h2; omega
 | succ k ih =>
   intro u acc h hb hl _; have hm : u % 10 < 10 := Nat.mod_lt _ (by decide); have e1 : (u : Int).tmod 10 = ((u % 10 : Nat) : Int) := by rw [Int.tmod_eq_emod_of_nonneg (by omega)]; omega
   have e2 : IntKind.u32.wrap ((u : Int).tdiv 10) = ((u / 10 : Nat) : Int) := by
    rw [Int.tdiv_eq_ediv_of_nonneg (by omega)]; unfold IntKind.wrap; simp [IntKind.bits, IntKind.signed]; omega
   unfold za3; rw [e1, e2, encS_dig hm, zdX (by simp only [List.length_singleton]; omega), Lib.decDigits]
   by_cases h10 : u < 10
   ·rw [dif_pos h10, if_pos (by rw [beq_iff_eq]; omega), show u % 10 = u by omega]
   ·rw [dif_neg h10, if_neg (by rw [beq_iff_eq]; omega)]
    have hk : 1 <= k := by
     cases k with
     | zero => simp at h; omega
     | succ k => omega
    rw [ih (u / 10) _ (by rw [Nat.pow_succ] at h; omega) (by omega) (by simp only [List.length_append, List.length_singleton]; omega) hk, List.append_assoc]
theorem zkl {u : Nat} (hu : u <= 4294967295) : ∀ n, 11 <= n -> zb2 n (u : Int) = some (Lib.decDigits u) := by
 have mono : ∀ (k : Nat) (u : Int) (acc r : Str), za3 k u acc = some r -> za3 (k + 1) u acc = some r := by
  intro k
  induction k with
  | zero => intro u acc r h; cases h
  | succ k ih =>
    intro u acc r h; unfold za3 at h ⊢; obtain ⟨h1, h2⟩ := zaO h; rw [zdX h1]
    split
    ·rename_i hc; rw [if_pos hc] at h2; exact h2
    ·rename_i hc; rw [if_neg hc] at h2; exact ih _ _ _ h2
 have base : za3 11 (u : Int) [] = some (Lib.decDigits u) := by
  have := zmw 11 u [] (by omega) hu (by decide) (by decide)
  rwa [List.append_nil] at this
 intro n hn; obtain ⟨m, rfl⟩ : ∃ m, n = 11 + m := ⟨n - 11, by omega⟩; unfold zb2
 have : za3 (11 + m) (u : Int) [] = some (Lib.decDigits u) := by
  induction m with
  | zero => exact base
  | succ m ih => exact mono _ _ _ _ (ih (by omega))
 rw [this]; rfl
def ziC (d1 d2 : Str) : Str := ((([102, 110, 32, 102, 40, 120, 58, 32, 117, 51, 50, 41, 32, 123, 32, 97, 114, 114, 32, 97, 91] ++ d1) ++ [93, 59, 32, 97, 91]) ++ d2) ++ [93, 32, 61, 32, 120, 59, 32, 125]
def zjy (d1 : Str) (u1 : Int) (d2 : Str) (u2 : Int) : List AT := [(1, [102, 110], 0), (1, [102], 0), (3, [40], 0), (1, [120], 0), (3, [58], 0), (1, [117, 51, 50], 0), (3, [41], 0), (3, [123], 0), (1, [97, 114, 114], 0), (1, [97], 0), (3, [91], 0), (2, d1, u1), (3, [93], 0), (3, [59], 0), (1, [97], 0), (3, [91], 0), (2, d2, u2), (3, [93], 0), (3, [61], 0), (1, [120], 0), (3, [59], 0), (3, [125], 0)]
theorem zgt {c : UInt8} {r : Str} (h : lod c = false) : nw (c :: r) := fun a b e => by cases e; exact h
theorem zfq {t : Str} (h : (match t with | b :: _ => zi1 b.toNat | [] => false) = true) (h2 : t.all lod = true) (h3 : t.length <= 32) : nameOk t := by
 refine ⟨?_, fun c hc => List.all_eq_true.1 h2 c hc, h3⟩; cases t with
 | nil => cases h
 | cons b r => exact ⟨b, r, rfl, h⟩
theorem num_lex {u1 u2 : Nat} (h1 : u1 <= 4294967295) (h2 : u2 <= 4294967295) : Lx (ziC (Lib.decDigits u1) (Lib.decDigits u2)) (zjy (Lib.decDigits u1) u1 (Lib.decDigits u2) u2) := by
 have e : ziC (Lib.decDigits u1) (Lib.decDigits u2) = [102, 110] ++ 32 :: ([102] ++ 40 :: ([120] ++ 58 :: 32 :: ([117, 51, 50] ++ 41 :: 32 :: 123 :: 32 :: ([97, 114, 114] ++ 32 :: ([97] ++ 91 :: (Lib.decDigits u1 ++ 93 :: 59 :: 32 :: ([97] ++ 91 :: (Lib.decDigits u2 ++ 93 :: 32 :: ([61] ++ 32 :: ([120] ++ 59 :: 32 :: 125 :: [])))))))))) := by
  unfold ziC; simp only [List.append_assoc, List.cons_append, List.nil_append]
 rw [e]; unfold zjy; refine .name (zfq rfl rfl (by decide)) (zgt rfl) (.sp ?_); refine .name (zfq rfl rfl (by decide)) (zgt rfl) (.s1 (by decide) ?_); refine .name (zfq rfl rfl (by decide)) (zgt rfl) (.s1 (by decide) (.sp ?_)); refine .name (zfq rfl rfl (by decide)) (zgt rfl) (.s1 (by decide) (.sp (.s1 (by decide) (.sp ?_)))); refine .name (zfq rfl rfl (by decide)) (zgt rfl) (.sp ?_); refine .name (zfq rfl rfl (by decide)) (zgt rfl) (.s1 (by decide) ?_); refine .num h1 (zgt rfl) (.s1 (by decide) (.s1 (by decide) (.sp ?_))); refine .name (zfq rfl rfl (by decide)) (zgt rfl) (.s1 (by decide) ?_); refine .num h2 (zgt rfl) (.s1 (by decide) (.sp ?_)); refine .sb (by decide) ?_; refine .name (zfq rfl rfl (by decide)) (zgt rfl) (.s1 (by decide) (.sp (.s1 (by decide) .nil)))
def bld (p : Nat -> Int) : Nat -> List AT -> List Tok
 | _, [] => []
 | i, a :: l => ⟨a.1, p i, a.2.1, a.2.2⟩ :: bld p (i + 1) l
theorem zko {p q : Nat -> Int} : ∀ (l : List AT) (k : Nat), (∀ i, k <= i -> p i = q i) -> bld p k l = bld q k l
 | [], _, _ => rfl
 | a :: l, k, h => by rw [bld, bld, h k (Nat.le_refl _), zko l (k + 1) fun i hi => h i (by omega)]
theorem bld_ex : ∀ (ats : List AT) (l : List Tok) (k : Nat), l.map absT = ats -> ∃ p, l = bld p k ats
 | [], l, k, h => ⟨fun _ => 0, by rw [List.map_eq_nil_iff] at h; rw [h]; rfl⟩
 | a :: ats, [], k, h => by cases h
 | a :: ats, t :: l, k, h => by
   simp only [List.map_cons, List.cons.injEq] at h; obtain ⟨p, hp⟩ := bld_ex ats l (k + 1) h.2; refine ⟨fun i => if i = k then t.At_ else p i, ?_⟩; rw [bld, ← h.1, if_pos rfl, hp]
   congr 1
   exact zko ats (k + 1) fun i hi => (if_neg (by omega)).symm
end Go.Proofs.YtldnmmnnohnpkaaDoor.Abs
namespace Go.Proofs.YtldnmmnnohnpkaaDoor.Abs
open Go.RowKit
set_option linter.unusedVariables false
def numTree (p : Nat -> Int) (u1 u2 : Int) : Nd := ⟨2, p 0, [102], 0, [⟨3, p 3, [120], 2, []⟩, ⟨4, p 7, [], 0, [⟨7, p 8, [97], u1, []⟩, ⟨9, p 14, [97], 0, [⟨14, p 16, [], u2, []⟩, ⟨15, p 19, [120], 0, []⟩]⟩]⟩]⟩
def zjl (c : UInt8) : Prop := ∀ (p : Nat -> Int) (d1 ds : Str) (u1 u2 e : Int), zd1 100000 100000 ⟨bld p 0 (zjy d1 u1 (c :: ds) u2) ++ [⟨4, e, [], 0⟩], 0, 1, 0, 0⟩ ⟨1, p 0, [], 0, []⟩ = some (⟨bld p 0 (zjy d1 u1 (c :: ds) u2) ++ [⟨4, e, [], 0⟩], 22, 8, 0, 0⟩, ⟨1, p 0, [], 0, [numTree p u1 u2]⟩)
set_option maxRecDepth 100000
theorem num_pl0 : zjl 48 := fun p d1 ds u1 u2 e => by kernel_rfl
theorem num_pl1 : zjl 49 := fun p d1 ds u1 u2 e => by kernel_rfl
theorem num_pl2 : zjl 50 := fun p d1 ds u1 u2 e => by kernel_rfl
theorem num_pl3 : zjl 51 := fun p d1 ds u1 u2 e => by kernel_rfl
theorem num_pl4 : zjl 52 := fun p d1 ds u1 u2 e => by kernel_rfl
theorem num_pl5 : zjl 53 := fun p d1 ds u1 u2 e => by kernel_rfl
theorem num_pl6 : zjl 54 := fun p d1 ds u1 u2 e => by kernel_rfl
theorem num_pl7 : zjl 55 := fun p d1 ds u1 u2 e => by kernel_rfl
theorem num_pl8 : zjl 56 := fun p d1 ds u1 u2 e => by kernel_rfl
theorem num_pl9 : zjl 57 := fun p d1 ds u1 u2 e => by kernel_rfl
theorem num_pl {c : UInt8} (h : zhA c.toNat = true) : zjl c := by
 have hc : 48 <= c.toNat /\ c.toNat <= 57 := by
  simp only [zhA, Bool.and_eq_true, decide_eq_true_eq] at h; omega
 have : c.toNat = 48 ∨ c.toNat = 49 ∨ c.toNat = 50 ∨ c.toNat = 51 ∨ c.toNat = 52 ∨ c.toNat = 53 ∨ c.toNat = 54 ∨ c.toNat = 55 ∨ c.toNat = 56 ∨ c.toNat = 57 := by omega
 rcases this with h | h | h | h | h | h | h | h | h | h
 ·rw [show c = 48 from UInt8.toNat_inj.1 h]; exact num_pl0
 ·rw [show c = 49 from UInt8.toNat_inj.1 h]; exact num_pl1
 ·rw [show c = 50 from UInt8.toNat_inj.1 h]; exact num_pl2
 ·rw [show c = 51 from UInt8.toNat_inj.1 h]; exact num_pl3
 ·rw [show c = 52 from UInt8.toNat_inj.1 h]; exact num_pl4
 ·rw [show c = 53 from UInt8.toNat_inj.1 h]; exact num_pl5
 ·rw [show c = 54 from UInt8.toNat_inj.1 h]; exact num_pl6
 ·rw [show c = 55 from UInt8.toNat_inj.1 h]; exact num_pl7
 ·rw [show c = 56 from UInt8.toNat_inj.1 h]; exact num_pl8
 ·rw [show c = 57 from UInt8.toNat_inj.1 h]; exact num_pl9
end Go.Proofs.YtldnmmnnohnpkaaDoor.Abs
namespace Go.Proofs.YtldnmmnnohnpkaaDoor.Abs
open Go.RowKit
set_option linter.unusedVariables false
set_option maxRecDepth 100000
section
variable (p : Nat -> Int) (u1 u2 : Int)
def nmS1 : Nd := ⟨7, p 8, [97], u1, []⟩
def nmS2 : Nd := ⟨9, p 14, [97], 0, [⟨14, p 16, [], u2, []⟩, ⟨15, p 19, [120], 0, []⟩]⟩
def nmB : Nd := ⟨4, p 7, [], 0, [nmS1 p u1, nmS2 p u2]⟩
def nmF : Nd := ⟨2, p 0, [102], 0, [⟨3, p 3, [120], 2, []⟩, nmB p u1 u2]⟩
def nmC0 : zad := ⟨⟨[⟨[102], false, 0, 0, [], []⟩]⟩, -1, [], [[]], 0⟩
def nmC1 : zad := ⟨⟨[⟨[102], false, 0, 1, [⟨[120], 2, 0⟩], []⟩]⟩, 0, [0], [[]], 0⟩
def nmC2 : zad := ⟨⟨[⟨[102], false, 0, 1, [⟨[120], 2, 0⟩, ⟨[97], 4, IntKind.i64.wrap u1⟩], []⟩]⟩, 0, [0, 1], [[]], 0⟩
def nmE : zag := ⟨[], -1, 0, [], [], [], p 14⟩
theorem nm_names : zdn 100000 zad.Z ⟨0, 0⟩ ⟨1, p 0, [], 0, [nmF p u1 u2]⟩ = some (nmC0, ⟨0, 0⟩) := by kernel_rfl
theorem nm_head : zeN (fun i f c w => zc2 100000 c w i f) [nmF p u1 u2] 0 nmC0 ⟨0, 0⟩ = some (nmC1, ⟨0, 0⟩) := by kernel_rfl
theorem nm_enter : zce 100000 nmC1 ⟨0, 0⟩ 0 = some (nmC1, ⟨0, 0⟩) := by kernel_rfl
theorem nm_st1 : zcI 99999 nmC1 ⟨0, 0⟩ (nmS1 p u1) false = (zcX (IntKind.i64.wrap (min u1 (1025 : Int)))).bind fun x19 => (zak nmC1 ⟨0, 0⟩ x19 (136 : Int) (p 8)).bind fun x20 => (za8 99998 nmC1 x20 (zas.mk [97] (4 : Int) (IntKind.i64.wrap u1)) (p 8)).bind fun x23 => some ((zag.mk [97, 114, 114] x23.1 (0 : Int) [] [] [] (p 8)), x23.2.1, x23.2.2) := by kernel_rfl
theorem nm_st1t : (zak nmC1 ⟨0, 0⟩ true (136 : Int) (p 8)).bind (fun x20 => (za8 99998 nmC1 x20 (zas.mk [97] (4 : Int) (IntKind.i64.wrap u1)) (p 8)).bind fun x23 => some ((zag.mk [97, 114, 114] x23.1 (0 : Int) [] [] [] (p 8)), x23.2.1, x23.2.2)) = some (⟨[97, 114, 114], 1, 0, [], [], [], p 8⟩, nmC2 u1, ⟨0, 0⟩) := by kernel_rfl
theorem nm_st1f : (zak nmC1 ⟨0, 0⟩ false (136 : Int) (p 8)).bind (fun x20 => (za8 99998 nmC1 x20 (zas.mk [97] (4 : Int) (IntKind.i64.wrap u1)) (p 8)).bind fun x23 => some ((zag.mk [97, 114, 114] x23.1 (0 : Int) [] [] [] (p 8)), x23.2.1, x23.2.2)) = some (⟨[97, 114, 114], -1, 0, [], [], [], p 8⟩, nmC1, ⟨136, p 8⟩) := by kernel_rfl
theorem nm_st2 : zcI 99999 (nmC2 u1) ⟨0, 0⟩ (nmS2 p u2) true = (zcF 99998 (nmC2 u1) ⟨0, 0⟩ (nmS2 p u2) (nmE p)).bind fun x29 => some (x29.1, nmC2 u1, x29.2) := by kernel_rfl
theorem nm_name : zbT 99998 (nmC2 u1) ⟨0, 0⟩ (nmS2 p u2) = some (1, ⟨0, 0⟩) := by kernel_rfl
theorem nm_kind : zbv (nmC2 u1) ⟨0, 0⟩ 1 = some 4 := by kernel_rfl
theorem nm_need : zak (nmC2 u1) ⟨0, 0⟩ ((4 : Int) == (4 : Int)) (132 : Int) (p 14) = some ⟨0, 0⟩ := by kernel_rfl
theorem nm_pub : zbs 99998 (nmC2 u1) ⟨0, 0⟩ ⟨14, p 16, [], u2, []⟩ = some (⟨[110, 117, 109], 1, u2, -1, [], p 16⟩, ⟨0, 0⟩) := by kernel_rfl
theorem nm_x (w : zaf) : zbw 99998 (nmC2 u1) w ⟨15, p 19, [120], 0, []⟩ = some (⟨[118, 97, 114], 2, 0, 0, [], p 19⟩, w) := by kernel_rfl
theorem nm_index : zcc 99998 (nmC2 u1) ⟨0, 0⟩ ⟨14, p 16, [], u2, []⟩ 1 = some (⟨[110, 117, 109], 1, u2, -1, [], p 16⟩, ndW ⟨0, 0⟩ (decide (IntKind.i64.wrap u2 < IntKind.i64.wrap u1)) 137 (p 16)) := by
 unfold zcc; rw [nm_pub, Option.bind_some]; show Option.bind (some true) _ = _; rw [Option.bind_some, if_pos rfl]; show (zak (nmC2 u1) ⟨0, 0⟩ (decide (IntKind.i64.wrap u2 < IntKind.i64.wrap u1)) 137 (p 16)).bind _ = _; rw [nd_eq]; rfl
theorem nm_put : ∃ s, zcF 99998 (nmC2 u1) ⟨0, 0⟩ (nmS2 p u2) (nmE p) = some (s, ndW ⟨0, 0⟩ (decide (IntKind.i64.wrap u2 < IntKind.i64.wrap u1)) 137 (p 16)) := by
 unfold zcF; rw [nm_name, Option.bind_some, nm_kind, Option.bind_some]; show ∃ s, (zak (nmC2 u1) ⟨0, 0⟩ ((4 : Int) == (4 : Int)) (132 : Int) (p 14)).bind _ = _; rw [nm_need, Option.bind_some]; show ∃ s, (zcc 99998 (nmC2 u1) ⟨0, 0⟩ ⟨14, p 16, [], u2, []⟩ 1).bind _ = _; rw [nm_index, Option.bind_some]; show ∃ s, (Option.bind (some (⟨15, p 19, [120], 0, []⟩ : Nd)) _) = _; rw [Option.bind_some]; show ∃ s, (zbw 99998 (nmC2 u1) (ndW ⟨0, 0⟩ (decide (IntKind.i64.wrap u2 < IntKind.i64.wrap u1)) 137 (p 16)) ⟨15, p 19, [120], 0, []⟩).bind _ = _; rw [nm_x, Option.bind_some]; show ∃ s, (zeO 2 2).bind _ = _; rw [show zeO 2 2 = some true from rfl, Option.bind_some, nd_eq, Option.bind_some]; exact ⟨_, rfl⟩
theorem zk4 {fs : zad -> zaf -> zaa -> Bool -> Option (zag × zad × zaf)} {m : Nat} {c c1 : zad} {s1 s2 : Nd} {a : Int} {t1 : zag} {w1 : zaf} (h1 : fs c ⟨0, 0⟩ s1 false = some (t1, c1, w1)) :
  zbZ fs (m + 3) c ⟨0, 0⟩ ⟨4, a, [], 0, [s1, s2]⟩ true = if (w1.e_ != (0 : Int)) = true then need ((0 : Int) <= (c.zaG.length : Int) /\ (c.zaG.length : Int) <= (c1.zaG.length : Int)) <| some ([t1], { c1 with zaG := c1.zaG.take c.zaG.length }, w1) else
   (fs c1 w1 s2 true).bind fun r => need ((0 : Int) <= (c.zaG.length : Int) /\ (c.zaG.length : Int) <= (r.2.1.zaG.length : Int)) <| some ([t1, r.1], { r.2.1 with zaG := r.2.1.zaG.take c.zaG.length }, r.2.2) := by
 unfold zbZ
 have e0 : zbc fs ⟨4, a, [], 0, [s1, s2]⟩ true (m + 3) [] 0 c ⟨0, 0⟩ = (fs c ⟨0, 0⟩ s1 false).bind fun r => zbc fs ⟨4, a, [], 0, [s1, s2]⟩ true (m + 2) [r.1] 1 r.2.1 r.2.2 := by
  unfold zbc; show (Option.bind (Option.bind (fs c ⟨0, 0⟩ s1 false) _) _) = _; rw [Option.bind_assoc]; rfl
 rw [e0, h1, Option.bind_some]; unfold zbc; show (Option.bind (if (w1.e_ != (0 : Int)) = true then _ else Option.bind (Option.bind (fs c1 w1 s2 true) _) _) _) = _
 by_cases he : (w1.e_ != (0 : Int)) = true
 ·rw [if_pos he, if_pos he]; rfl
 ·rw [if_neg he, if_neg he]; cases hr : fs c1 w1 s2 true with
  | none => rfl
  | some r =>
    show Option.bind (zbc fs ⟨4, a, [], 0, [s1, s2]⟩ true (m + 1) [t1, r.1] 2 r.2.1 r.2.2) _ = _; unfold zbc; rfl
variable {p u1 u2}
theorem nm_ew {k b : Bool} (hs : zcX (IntKind.i64.wrap (min u1 (1025 : Int))) = some k) (hb : decide (IntKind.i64.wrap u2 < IntKind.i64.wrap u1) = b) : ∃ t vs, zcO 100000 nmC1 ⟨0, 0⟩ (nmB p u1 u2) true = some (t, ⟨⟨[⟨[102], false, 0, 1, vs, []⟩]⟩, 0, [0], [[]], 0⟩, if k = true then ndW ⟨0, 0⟩ b 137 (p 16) else ⟨136, p 8⟩) := by
 show ∃ t vs, zbZ (zcI 99999) (99996 + 3) nmC1 ⟨0, 0⟩ ⟨4, p 7, [], 0, [nmS1 p u1, nmS2 p u2]⟩ true = _; cases k with
 | false =>
   rw [zk4 (by rw [nm_st1, hs, Option.bind_some]; exact nm_st1f p u1)]; exact ⟨_, _, rfl⟩
 | true =>
   rw [zk4 (by rw [nm_st1, hs, Option.bind_some]; exact nm_st1t p u1), nm_st2]; obtain ⟨s, hp⟩ := nm_put p u1 u2; rw [hp, hb]; exact ⟨_, _, rfl⟩
theorem nm_body {k b : Bool} (hs : zcX (IntKind.i64.wrap (min u1 (1025 : Int))) = some k) (hb : decide (IntKind.i64.wrap u2 < IntKind.i64.wrap u1) = b) : ∃ c, zeN (fun i f c w => zcr 100000 c w i f) [nmF p u1 u2] 0 nmC1 ⟨0, 0⟩ = some (⟨⟨[c]⟩, 0, [0], [[]], 0⟩, if k = true then ndW ⟨0, 0⟩ b 137 (p 16) else ⟨136, p 8⟩) := by
 obtain ⟨t, vs, h1⟩ := nm_ew (p := p) hs hb; unfold zeN; rw [if_pos (by decide)]; unfold zcr; show ∃ c, (Option.bind (Option.bind (zce 100000 nmC1 ⟨0, 0⟩ 0) _) _) = _; rw [nm_enter, Option.bind_some]; rw [zdX ⟨show (0 : Int) <= 1 by decide, show (1 : Int) <= 2 by decide⟩]; unfold zbY; show ∃ c, (Option.bind (Option.bind (Option.bind (zcO 100000 nmC1 ⟨0, 0⟩ (nmB p u1 u2) true) _) _) _) = _; rw [h1]; exact ⟨_, rfl⟩
theorem sized_eq (n : Int) (h : 0 <= n) : zcX n = some (decide (1 <= n /\ n <= 255 ∨ 255 < n /\ n <= 1024 /\ n % 4 = 0)) := by
 obtain ⟨b, e, hb⟩ := zlW (a := n); rw [e]
 congr 1
 cases b with
 | true =>
   have h2 := hb rfl; unfold zjC at h2; exact (decide_eq_true h2).symm
 | false =>
   refine (decide_eq_false fun hc => ?_).symm; unfold zcX at e
   rcases hc with ⟨h1, h2⟩ | ⟨h1, h2, h3⟩
   ·rw [if_pos (decide_eq_true h1), if_pos (decide_eq_true h2)] at e; cases e
   ·rw [if_pos (decide_eq_true (by omega)), if_neg (by rw [decide_eq_true_eq]; omega), if_pos (decide_eq_true h1), if_pos (decide_eq_true h2), Option.bind_some, Int.tmod_eq_emod_of_nonneg h, h3] at e; cases e
end
theorem zjU : ∀ (k u : Nat), u < 10 ^ k -> 1 <= k -> (Lib.decDigits u).length <= k := by
 intro k
 induction k with
 | zero => intro u _ h; omega
 | succ k ih =>
   intro u h _; rw [Lib.decDigits]
   split
   ·simp
   ·have hk : 1 <= k := by
     cases k with
     | zero => simp at h; omega
     | succ k => omega
    have := ih (u / 10) (by rw [Nat.pow_succ] at h; omega) hk; simp only [List.length_append, List.length_singleton]; omega
theorem num_node (p : Nat -> Int) (c : UInt8) (d1 ds : Str) (u1 u2 e : Int) : zbp (zab.mk (bld p 0 (zjy d1 u1 (c :: ds) u2) ++ [⟨4, e, [], 0⟩]) 0 0 0 0) 1 = some (⟨1, p 0, [], 0, []⟩, ⟨bld p 0 (zjy d1 u1 (c :: ds) u2) ++ [⟨4, e, [], 0⟩], 0, 1, 0, 0⟩) := by kernel_rfl
theorem nm_parse {a b : Nat} (ha : a <= 4294967295) (hb : b <= 4294967295) : ∃ p, zfR 100000 (ziC (Lib.decDigits a) (Lib.decDigits b)) = some (⟨1, p 0, [], 0, [nmF p a b]⟩, 0, 0) := by
 have h1 := zjU 11 a (by omega) (by decide); have h2 := zjU 11 b (by omega) (by decide)
 have hl : (ziC (Lib.decDigits a) (Lib.decDigits b)).length <= 60 := by
  unfold ziC; simp only [List.length_append, List.length_cons, List.length_nil]; omega
 obtain ⟨l, e1, e2⟩ := (num_lex ha hb).tokens (n := 100000) (by omega) (by omega); obtain ⟨p, rfl⟩ := bld_ex _ l 0 e2; refine ⟨p, ?_⟩; obtain ⟨_, h4, h5⟩ := zmy b; cases hd : Lib.decDigits b with
 | nil => exact absurd hd h5
 | cons c ds =>
   rw [hd] at h4; have hpl := num_pl (h4 c List.mem_cons_self) p (Lib.decDigits a) ds a b ((ziC (Lib.decDigits a) (c :: ds)).length : Int); rw [hd] at e1; unfold zfR; rw [e1, Option.bind_some, if_neg (show ¬((0 : Int) != 0) = true by decide), num_node, Option.bind_some]
   generalize Lib.decDigits a = d1 at *
   dsimp only
   rw [hpl]; rfl
theorem nm_check {a b : Nat} (ha : a <= 4294967295) (hb : b <= 4294967295) : ∃ r, zfg 100000 (ziC (Lib.decDigits a) (Lib.decDigits b)) = some r /\ r.2.1 = if (1 <= (a : Int) /\ (a : Int) <= 255 ∨ 255 < (a : Int) /\ (a : Int) <= 1024 /\ (a : Int) % 4 = 0) then (if (b : Int) < a then 0 else 137) else 136 := by
 obtain ⟨p, hp⟩ := nm_parse ha hb; have w1 : IntKind.i64.wrap (a : Int) = a := zfC (by omega) (by omega); have w2 : IntKind.i64.wrap (b : Int) = b := zfC (by omega) (by omega)
 have hs : zcX (IntKind.i64.wrap (min (a : Int) 1025)) = some (decide (1 <= (a : Int) /\ (a : Int) <= 255 ∨ 255 < (a : Int) /\ (a : Int) <= 1024 /\ (a : Int) % 4 = 0)) := by
  rw [zfC (by omega) (by omega), sized_eq _ (by omega)]
  by_cases h : (a : Int) <= 1025
  ·rw [show min (a : Int) 1025 = a by omega]
  ·rw [show min (a : Int) 1025 = 1025 by omega]
   congr 1
   rw [decide_eq_false (by decide), decide_eq_false (by omega)]
 obtain ⟨c, hB⟩ := nm_body (p := p) (u1 := a) (u2 := b) hs rfl; rw [w1, w2] at hB; unfold zfg; rw [hp, Option.bind_some, if_neg (show ¬((0 : Int) != 0) = true by decide)]
 dsimp only
 rw [nm_names, Option.bind_some, zdX (show [nmF p (a : Int) (b : Int)].length <= 1073741824 by simp)]
 dsimp only
 unfold zff; rw [nm_head, Option.bind_some]; unfold zff; rw [hB, Option.bind_some]; unfold zff; rw [Option.bind_some]
 by_cases k : (1 <= (a : Int) /\ (a : Int) <= 255 ∨ 255 < (a : Int) /\ (a : Int) <= 1024 /\ (a : Int) % 4 = 0)
 ·rw [if_pos k, decide_eq_true k, if_pos rfl]
  by_cases hlt : (b : Int) < a
  ·rw [if_pos hlt, decide_eq_true hlt]; exact ⟨_, rfl, rfl⟩
  ·rw [if_neg hlt, decide_eq_false hlt]; exact ⟨_, rfl, rfl⟩
 ·rw [if_neg k, decide_eq_false k, if_neg (by decide)]; exact ⟨_, rfl, rfl⟩
theorem u32_le {x : Int} (h : (Lit.int .u32 x).wf = true) : 0 <= x /\ x <= 4294967295 := by
 simp [Lit.wf, IntKind.min, IntKind.max, IntKind.signed, IntKind.bits] at h
 omega
theorem anchor12 : zdg 100000 = some true := by kernel_rfl
theorem zke (x y : Int) (hx : 0 <= x /\ x <= 4294967295) (hy : 0 <= y /\ y <= 4294967295) : zbU 100000 x y = some true := by
 obtain ⟨a, rfl⟩ : ∃ a : Nat, x = a := ⟨x.toNat, by omega⟩; obtain ⟨b, rfl⟩ : ∃ b : Nat, y = b := ⟨y.toNat, by omega⟩; have ha : a <= 4294967295 := by omega
 have hb : b <= 4294967295 := by omega
 have h1 := zjU 11 a (by omega) (by decide); have h2 := zjU 11 b (by omega) (by decide); obtain ⟨r, e, hr⟩ := nm_check ha hb; unfold ziC at e; unfold zbU
 rw [anchor12, Option.bind_some, if_neg (by decide), zkl ha _ (by decide), Option.bind_some, zdX (by simp only [List.length_cons, List.length_nil]; omega), zdX (by simp only [List.length_append, List.length_cons, List.length_nil]; omega), zkl hb _ (by decide), Option.bind_some,
  zdX (by simp only [List.length_append, List.length_cons, List.length_nil]; omega), zdX (by simp only [List.length_append, List.length_cons, List.length_nil]; omega), zdX (by simp only [List.length_append, List.length_cons, List.length_nil]; omega), e, Option.bind_some]
 have ht : (a : Int).tmod 4 = (a : Int) % 4 := Int.tmod_eq_emod_of_nonneg (by omega); rw [ht, hr]
 by_cases k : (1 <= (a : Int) /\ (a : Int) <= 255 ∨ 255 < (a : Int) /\ (a : Int) <= 1024 /\ (a : Int) % 4 = 0)
 ·have key : (if (decide ((1 : Int) <= (a : Int))) = true then if (decide ((a : Int) <= (255 : Int))) = true then some false else if (decide ((256 : Int) <= (a : Int))) = true then if (decide ((a : Int) <= (1024 : Int))) = true then some (!((a : Int) % 4 == (0 : Int))) else some true else some true else if (decide ((256 : Int) <= (a : Int))) = true then if (decide ((a : Int) <= (1024 : Int))) = true then some (!((a : Int) % 4 == (0 : Int))) else some true else some true) = some false := by
   rw [if_pos (decide_eq_true (by omega))]
   rcases k with ⟨k1, k2⟩ | ⟨k1, k2, k3⟩
   ·rw [if_pos (decide_eq_true k2)]
   ·rw [if_neg (by rw [decide_eq_true_eq]; omega), if_pos (decide_eq_true (by omega)), if_pos (decide_eq_true k2), k3]; rfl
  rw [key, Option.bind_some, if_neg (by decide), if_pos k]
  by_cases hlt : (b : Int) < a
  ·rw [if_neg (by rw [decide_eq_true_eq]; omega), if_pos hlt]; rfl
  ·rw [if_pos (decide_eq_true (by omega)), if_neg hlt]; rfl
 ·have key : (if (decide ((1 : Int) <= (a : Int))) = true then if (decide ((a : Int) <= (255 : Int))) = true then some false else if (decide ((256 : Int) <= (a : Int))) = true then if (decide ((a : Int) <= (1024 : Int))) = true then some (!((a : Int) % 4 == (0 : Int))) else some true else some true else if (decide ((256 : Int) <= (a : Int))) = true then if (decide ((a : Int) <= (1024 : Int))) = true then some (!((a : Int) % 4 == (0 : Int))) else some true else some true) = some true := by
   simp only [decide_eq_true_eq]
   repeat' split
   all_goals first | rfl | omega | (congr 1; rw [Bool.not_eq_true', beq_eq_false_iff_ne]; omega)
  rw [key, Option.bind_some, if_pos rfl, if_neg k]; rfl
theorem zlq : ∃ n, ∀ x y : Int, (Lit.int .u32 x).wf = true -> (Lit.int .u32 y).wf = true -> zbU n x y = some true :=
 ⟨100000, fun x y hx hy => zke x y (u32_le hx) (u32_le hy)⟩
end Go.Proofs.YtldnmmnnohnpkaaDoor.Abs
