/-
 CheckNumbers: the claim. The frame follows the kit's proof-skeleton.mjs and the guide's worked example of listed variables; printed by a program of mine (claimgen.py).
-/
import Derived.Test.YtldnmmnnohnpkaaDoorRows
import Derived.WalkKit
import Derived.ProofKit
import Derived.OpenShut
import Derived.ShutString
import Derived.ChangeOld
import Derived.Below
import Derived.Test.YtldnmmnnohnpkaaDoorNuA21
import Derived.Test.YtldnmmnnohnpkaaDoorNuLaid
import Derived.Test.YtldnmmnnohnpkaaDoorCards
import Derived.Test.YtldnmmnnohnpkaaDoorTie
import Derived.LaidMore
import Derived.Stop.Joined
import Derived.SevenTiedAt
import Derived.Test.YtldnmmnnohnpkaaDoorNuNum1
import Derived.Test.YtldnmmnnohnpkaaDoorNuGLw
namespace Go.Proofs.YtldnmmnnohnpkaaDoor.checkNumbers
open Go.ChangeShapes Go.WideShapes Go.ChangeAt Go.RowKit
open Go.ChangeMaps (open_string shut_string)
set_option linter.unusedVariables false
theorem own : ownKnob Tryd.prog.godebug = none := by kernel_rfl
theorem walk (a0 : Int) (a1 : Int) (w : World) (w0 : (Lit.int .u32 a0).wf = true) (w1 : (Lit.int .u32 a1).wf = true) (hL : laidMetH Tryd.prog Rows.checkNumbersRow.laid w) :
  Calls Tryd.prog 3 #[.int .u32 a0, .int .u32 a1] w fun e w' => e = .returned (.bool true) /\ Below w.heap.size w w' := by
 have hC := Abs.zlP (Abs.of_laidC hL); obtain ⟨nF, hLaw⟩ := Abs.zlq
 exact (Abs.zfd nF a0 a1 true (hLaw a0 a1 w0 w1) [] (Abs.M.startG (Abs.zkw Abs.zj3)) [.lit (.int .u32 a0), .lit (.int .u32 a1)] ⟨rfl, rfl, Abs.tabsC_0, Abs.tabsC_1, Abs.tabsC_2, Abs.tabsC_4⟩).claimG
  (fun xs w => Tryd.call3 xs w) hC (Abs.tabsV_cr (fun _ _ _ h => h) Abs.zlQ) (Abs.CR.cons (Abs.CR.lit .nil) (Abs.CR.cons (Abs.CR.lit .nil) .nil))
set_option maxRecDepth 100000 in
theorem lifted (os : Os) (started : os.Started) (H : Type) (enc : TypeId × Value -> H) :
  ReturnsInHanded {} Tryd.checked os 3 .any (fun w args => (Rows.checkNumbersSpec.pre enc Tryd.prog Tryd.f3 [] false w args /\ laidMetH Tryd.prog Rows.checkNumbersRow.laid w) /\ sizedMet enc Tryd.prog Tryd.f3 (OpenSpec.ofChange Rows.checkNumbersSpec) false w args)
   (Rows.checkNumbersSpec.post enc Tryd.prog Tryd.f3 false true false false) := by
 refine returnsInHanded_of_change_and (C := Tryd.checked) (X := fun w _ => laidMetH Tryd.prog Rows.checkNumbersRow.laid w) (fun _ _ _ hh h => h.of_heap hh) own started (by kernel_rfl) Tryd.func3
  (ChangeSpec.witness_shaped (enc := enc) (C := Tryd.checked) (os := os) (X := fun w _ => laidMetH Tryd.prog Rows.checkNumbersRow.laid w) false (World.doorLaid Tryd.prog 400 os) #[.int .u32 0, .int .u32 0] 8 rfl (World.shaped_of_RefB (by kernel_rfl) (by kernel_rfl)) (by kernel_rfl) (by kernel_rfl) (by kernel_rfl) (Abs.zmv os _)) ?_
 intro W base args ds gs before hval0 hW _ _ hL _; have hval : ∀ (j : Nat) t v, Tryd.f3.params[j]? = some t -> args[j]? = some v -> Value.okWide Tryd.prog W .any base t v := hval0; have hW' := hW; obtain ⟨p, q, hA0, hV, rfl, hfz, hnd⟩ := hW; have hA : DataW.TrodAll enc Tryd.prog W 0 (fun _ => true) true Tryd.f3.params.toList args.toList ds p := hA0; rw [Tryd.params3] at hA hval; obtain ⟨v0, vs0, d0, ds0, p0, q0, hargs, rfl, rfl, h0, r0⟩ := trodAll_cons hA; obtain ⟨v1, vs1, d1, ds1, p1, q1, rfl, rfl, rfl, h1, r1⟩ := trodAll_cons r0; obtain ⟨rfl, rfl, rfl⟩ := trodAll_nil r1; obtain rfl : args = #[v0, v1] := by cases args; simp_all
 obtain ⟨rfl, rfl⟩ := trodVars_none hV; obtain ⟨a0, rfl, rfl, rfl, w0⟩ := open_int Tryd.underlying22 (hval 0 22 v0 rfl rfl) h0; obtain ⟨a1, rfl, rfl, rfl, w1⟩ := open_int Tryd.underlying22 (hval 1 22 v1 rfl rfl) h1; clear hA0 hval0; simp only [List.append_nil] at hW'; refine (walk a0 a1 W w0 w1 hL).mono fun e W' ⟨he, bel⟩ => ?_; subst he; exact ⟨_, rfl, _, _, _, [], _, [], hW', trodAll_mk1 (shut_bool Tryd.underlying4 _), (trodAll_cons_mk (shut_int Tryd.underlying22 w0) (trodAll_cons_mk (shut_int Tryd.underlying22 w1) trodAll_mk0)), rfl, bel.frame _, fun h => by cases h⟩
theorem over : Rows.checkNumbersRow.holds Tryd.pinned (OpenSpec.ofChange Rows.checkNumbersSpec) :=
 OpenClaim.holds_of_wide 3 Tryd.f3 rfl rfl rfl rfl rfl rfl rfl ⟨rfl, rfl, rfl, rfl, rfl⟩ rfl rfl rfl rfl rfl (by kernel_rfl) Tryd.func3 (by kernel_rfl)
  (of_decide_eq_true (by kernel_rfl)) (by unfold Func.isWrapper; first | (rw [if_pos (by decide +kernel)]; kernel_rfl) | (rw [if_neg (by decide +kernel)]; exact ⟨rfl, rfl⟩))
  (fun os started H enc _ => lifted os started H enc)
theorem proved : Rows.CheckNumbersCardSaid :=
 Claim7.holds_tied_plain_at .later [] [.data, .widerDeep, .data, .data] true (true, "c823817b4f29c583f3a70e94e976b314379ac540c3385b674b55974f83092664") false
  over (fun _ h => by cases h) (by kernel_rfl) (fun _ h => by cases h) checkNumbers_row_tie rfl ⟨rfl, rfl⟩ (by kernel_rfl) rfl
  (fun f fn hf hfn => by
    obtain rfl : f = 3 := Option.some.inj ((show Tryd.prog.funcNamed "remontoire/remontoirelaw12.CheckNumbers" = some 3 by kernel_rfl).symm.trans hf) |>.symm; obtain rfl : fn = Tryd.f3 := (Option.some.inj (Tryd.func3.symm.trans hfn)).symm
    exact ⟨by kernel_rfl, fun j t ht => by
     rw [Tryd.params3] at ht; have hm : t ∈ [22, 22] := by simpa using Array.mem_of_getElem? ht
     have hall : ([22, 22].all fun u => !Tryd.prog.wantsStandIn u) = true := by kernel_rfl
     exact (show Tryd.prog.wantsStandIn t = false by simpa using List.all_eq_true.1 hall t hm)⟩)
  (by kernel_rfl)
#print axioms proved
end Go.Proofs.YtldnmmnnohnpkaaDoor.checkNumbers
