/-
  ParseSame: the claim. The frame follows the kit's proof-skeleton.mjs and the guide's worked example of listed variables; printed by a program of mine (claimgen.py).
-/
import Derived.Test.YtolhahlnccekcaaDoorRows
import Derived.WalkKit
import Derived.ProofKit
import Derived.OpenShut
import Derived.ShutString
import Derived.ChangeOld
import Derived.Below
import Derived.Test.YtolhahlnccekcaaDoorPsA21
import Derived.Test.YtolhahlnccekcaaDoorPsLaid
import Derived.Test.YtolhahlnccekcaaDoorCards
import Derived.Test.YtolhahlnccekcaaDoorTie
import Derived.LaidMore
import Derived.Stop.Joined
import Derived.SevenTiedAt
import Derived.Test.YtolhahlnccekcaaDoorPsTabs
import Derived.Test.YtolhahlnccekcaaDoorPsSameL
import Derived.Test.YtolhahlnccekcaaDoorPsV5
namespace Go.Proofs.YtolhahlnccekcaaDoor.parseSame
open Go.ChangeShapes Go.WideShapes Go.ChangeAt Go.RowKit
open Go.ChangeMaps (open_string shut_string)
set_option linter.unusedVariables false

theorem own : ownKnob Tryd.prog.godebug = none := by kernel_rfl
theorem laidOut : laidOutB Tryd.prog = true := by kernel_rfl

/-- a slice of numbers that came in -/
def IsRow (k : IntKind) (w : World) (a : Option Addr) (len cap : Nat) (zs : List Int) : Prop :=
  (a = none ∧ len = 0 ∧ cap = 0 ∧ zs = []) ∨
  ∃ x, a = some x ∧ len ≤ cap ∧ cap ≤ maxLen ∧ zs.length = cap ∧ (∀ i, i < zs.length → w.cell? (x.add i) = some (.int k (zs.getD i 0))) ∧ ∀ n ∈ zs, (Lit.int k n).wf = true

theorem walk (a0 : Option Addr) (len0 cap0 : Nat) (z0 : List Int) (a1 : Option Addr) (len1 cap1 : Nat) (z1 : List Int) (w : World) (w0 : IsRow .u8 w a0 len0 cap0 z0) (w1 : IsRow .u8 w a1 len1 cap1 z1) (hL : laidMetH Tryd.prog Rows.parseSameRow.laid w) :
    Calls Tryd.prog 6 #[.slice a0 len0 cap0, .slice a1 len1 cap1] w fun e w' => e = .returned (.bool true) ∧ Below w.heap.size w w' := by
  have hC := Abs.tabsG_com (Abs.of_laidP hL)
  obtain ⟨G0, hC0, hS0, _, hw0⟩ := row_in w0
  have hE0 : ∀ b o v, (Abs.tabsG Abs.tabsP) b o = some v → bothG (Abs.tabsG Abs.tabsP) G0 b o = some v := fun _ _ _ => bothG_left
  have hF0 : ∀ b o v, G0 b o = some v → bothG (Abs.tabsG Abs.tabsP) G0 b o = some v := fun _ _ _ => bothG_right hC hC0
  replace hC := bothG_com hC hC0
  obtain ⟨G1, hC1, hS1, _, hw1⟩ := row_in w1
  have hE1 : ∀ b o v, (bothG (Abs.tabsG Abs.tabsP) G0) b o = some v → bothG (bothG (Abs.tabsG Abs.tabsP) G0) G1 b o = some v := fun _ _ _ => bothG_left
  have hF1 : ∀ b o v, G1 b o = some v → bothG (bothG (Abs.tabsG Abs.tabsP) G0) G1 b o = some v := fun _ _ _ => bothG_right hC hC1
  replace hC := bothG_com hC hC1
  have k0 : SliceIs (bothG (bothG (Abs.tabsG Abs.tabsP) G0) G1) ((z0.take len0).map (Dat.int .u8)) a0 len0 cap0 := hS0.le fun _ _ _ h => hE1 _ _ _ (hF0 _ _ _ h)
  have k1 : SliceIs (bothG (bothG (Abs.tabsG Abs.tabsP) G0) G1) ((z1.take len1).map (Dat.int .u8)) a1 len1 cap1 := hS1.le fun _ _ _ h => hF1 _ _ _ h
  obtain ⟨nF, hLaw⟩ := Abs.same_ex

  exact (Abs.remontoirelaw10_ParseSame_ok nF ((((z0.take len0).map fun z => z.toNat.toUInt8))) ((((z1.take len1).map fun z => z.toNat.toUInt8))) true (hLaw ((((z0.take len0).map fun z => z.toNat.toUInt8))) ((((z1.take len1).map fun z => z.toNat.toUInt8)))) [] (Abs.M.startG (Abs.tabsV Abs.tabsP)) [.list .none (Abs.byteRows (((z0.take len0).map fun z => z.toNat.toUInt8))), .list .none (Abs.byteRows (((z1.take len1).map fun z => z.toNat.toUInt8)))] ⟨rfl, Abs.tabsP_0, Abs.tabsP_3, Abs.tabsP_6⟩).claimG
    (fun xs w => Tryd.call6 xs w) hC (Abs.tabsV_cr (fun _ _ _ h => hE1 _ _ _ (hE0 _ _ _ (h))) Abs.tabsP_one) (Abs.CR.cons (Abs.bytes_cr (c := Abs.Conc.start w (bothG (bothG (Abs.tabsG Abs.tabsP) G0) G1)) k0 hw0) (Abs.CR.cons (Abs.bytes_cr (c := Abs.Conc.start w (bothG (bothG (Abs.tabsG Abs.tabsP) G0) G1)) k1 hw1) .nil))

set_option maxRecDepth 100000 in
theorem lifted (os : Os) (started : os.Started) (H : Type) (enc : TypeId × Value → H) :
    ReturnsInHanded {} Tryd.checked os 6 .any (fun w args => (Rows.parseSameSpec.pre enc Tryd.prog Tryd.f6 [] false w args ∧ laidMetH Tryd.prog Rows.parseSameRow.laid w) ∧ sizedMet enc Tryd.prog Tryd.f6 (OpenSpec.ofChange Rows.parseSameSpec) false w args)
      (Rows.parseSameSpec.post enc Tryd.prog Tryd.f6 false true false false) := by
  refine returnsInHanded_of_change_and (C := Tryd.checked) (X := fun w _ => laidMetH Tryd.prog Rows.parseSameRow.laid w) (fun _ _ _ hh h => h.of_heap hh) own started (by kernel_rfl) Tryd.func6
    (ChangeSpec.witness_shaped (enc := enc) (C := Tryd.checked) (os := os) (X := fun w _ => laidMetH Tryd.prog Rows.parseSameRow.laid w) false (World.doorLaid Tryd.prog 400 os) #[.slice none 0 0, .slice none 0 0] 8 rfl (World.shaped_of_RefB (by kernel_rfl) (by kernel_rfl)) (by kernel_rfl) (by kernel_rfl) (by kernel_rfl) (Abs.door_metP os _)) ?_
  intro W base args ds gs before hval0 hW _ _ hL _
  have hval : ∀ (j : Nat) t v, Tryd.f6.params[j]? = some t → args[j]? = some v → Value.okWide Tryd.prog W .any base t v := hval0
  have hW' := hW
  obtain ⟨p, q, hA0, hV, rfl, hfz, hnd⟩ := hW
  have hA : DataW.TrodAll enc Tryd.prog W 0 (fun _ => true) true Tryd.f6.params.toList args.toList ds p := hA0
  rw [Tryd.params6] at hA hval
  obtain ⟨v0, vs0, d0, ds0, p0, q0, hargs, rfl, rfl, h0, r0⟩ := trodAll_cons hA
  obtain ⟨v1, vs1, d1, ds1, p1, q1, rfl, rfl, rfl, h1, r1⟩ := trodAll_cons r0
  obtain ⟨rfl, rfl, rfl⟩ := trodAll_nil r1
  obtain rfl : args = #[v0, v1] := by cases args; simp_all
  obtain ⟨rfl, rfl⟩ := trodVars_none hV
  obtain ⟨a0, len0, cap0, rfl⟩ := okWide_slice Tryd.underlying31 (hval 0 31 v0 rfl rfl)
  have k0 := h0
  have lt0 : ∀ x ∈ p0, x.block < W.heap.size := by obtain ⟨m, hm⟩ := k0; exact DataW.trod_lt m _ _ _ hm
  obtain ⟨z0, w0⟩ : ∃ zs, IsRow .u8 W a0 len0 cap0 zs := by
    obtain ⟨fuel, hf⟩ := h0
    rcases open_ints Tryd.underlying31 Tryd.underlying5 (by kernel_rfl) hf with ⟨hcs, _⟩ | ⟨x, l, c, zs, hcs, _, hl, hm, hz, _, hcell, hwz⟩
    · simp [Value.cells] at hcs
      obtain ⟨rfl, rfl, rfl⟩ := hcs
      exact ⟨[], .inl ⟨rfl, rfl, rfl, rfl⟩⟩
    · simp [Value.cells] at hcs
      obtain ⟨rfl, rfl, rfl⟩ := hcs
      exact ⟨zs, .inr ⟨_, rfl, hl, hm, by simpa using hz, hcell, hwz⟩⟩
  obtain ⟨a1, len1, cap1, rfl⟩ := okWide_slice Tryd.underlying31 (hval 1 31 v1 rfl rfl)
  have k1 := h1
  have lt1 : ∀ x ∈ p1, x.block < W.heap.size := by obtain ⟨m, hm⟩ := k1; exact DataW.trod_lt m _ _ _ hm
  obtain ⟨z1, w1⟩ : ∃ zs, IsRow .u8 W a1 len1 cap1 zs := by
    obtain ⟨fuel, hf⟩ := h1
    rcases open_ints Tryd.underlying31 Tryd.underlying5 (by kernel_rfl) hf with ⟨hcs, _⟩ | ⟨x, l, c, zs, hcs, _, hl, hm, hz, _, hcell, hwz⟩
    · simp [Value.cells] at hcs
      obtain ⟨rfl, rfl, rfl⟩ := hcs
      exact ⟨[], .inl ⟨rfl, rfl, rfl, rfl⟩⟩
    · simp [Value.cells] at hcs
      obtain ⟨rfl, rfl, rfl⟩ := hcs
      exact ⟨zs, .inr ⟨_, rfl, hl, hm, by simpa using hz, hcell, hwz⟩⟩
  clear hA0 hval0
  simp only [List.append_nil] at hW'
  refine (walk a0 len0 cap0 z0 a1 len1 cap1 z1 W w0 w1 hL).mono fun e W' ⟨he, bel⟩ => ?_
  subst he
  exact ⟨_, rfl, _, _, _, [], _, [], hW', trodAll_mk1 (shut_bool Tryd.underlying4 _), (trodAll_cons_mk (Below.trod laidOut (by kernel_rfl) (of_decide_eq_true (by kernel_rfl)) k0 bel lt0) (trodAll_cons_mk (Below.trod laidOut (by kernel_rfl) (of_decide_eq_true (by kernel_rfl)) k1 bel lt1) trodAll_mk0)), rfl, bel.frame _, fun h => by cases h⟩

theorem over : Rows.parseSameRow.holds Tryd.pinned (OpenSpec.ofChange Rows.parseSameSpec) :=
  OpenClaim.holds_of_wide 6 Tryd.f6 rfl rfl rfl rfl rfl rfl rfl ⟨rfl, rfl, rfl, rfl, rfl⟩ rfl rfl rfl rfl rfl (by kernel_rfl) Tryd.func6 (by kernel_rfl)
    (of_decide_eq_true (by kernel_rfl)) (by unfold Func.isWrapper; first | (rw [if_pos (by decide +kernel)]; kernel_rfl) | (rw [if_neg (by decide +kernel)]; exact ⟨rfl, rfl⟩))
    (fun os started H enc _ => lifted os started H enc)

theorem proved : Rows.ParseSameCardSaid :=
  Claim7.holds_tied_plain_at .later [] [.data, .widerDeep, .data] true (true, "309b9d4df03dfb33facd44ede3676af7f96e9ea2e855aefa81007084e06a7fc4") false
    over (fun _ h => by cases h) (by kernel_rfl) (fun _ h => by cases h) parseSame_row_tie rfl ⟨rfl, rfl⟩ (by kernel_rfl) rfl
    (fun f fn hf hfn => by
      obtain rfl : f = 6 := Option.some.inj ((show Tryd.prog.funcNamed "remontoire/remontoirelaw10.ParseSame" = some 6 by kernel_rfl).symm.trans hf) |>.symm
      obtain rfl : fn = Tryd.f6 := (Option.some.inj (Tryd.func6.symm.trans hfn)).symm
      exact ⟨by kernel_rfl, fun j t ht => by
        rw [Tryd.params6] at ht
        have hm : t ∈ [31, 31] := by simpa using Array.mem_of_getElem? ht
        have hall : ([31, 31].all fun u => !Tryd.prog.wantsStandIn u) = true := by kernel_rfl
        exact (show Tryd.prog.wantsStandIn t = false by simpa using List.all_eq_true.1 hall t hm)⟩)
    (by kernel_rfl)
#print axioms proved
end Go.Proofs.YtolhahlnccekcaaDoor.parseSame
