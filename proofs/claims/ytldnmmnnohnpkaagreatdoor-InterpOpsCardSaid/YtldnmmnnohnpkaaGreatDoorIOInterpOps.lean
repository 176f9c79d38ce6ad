/-
 InterpOps: the claim. The frame follows the kit's proof-skeleton.mjs and the guide's worked example of listed variables; printed by a program of mine (claimgen.py).
-/
import Derived.Test.YtldnmmnnohnpkaaGreatDoorRows
import Derived.WalkKit
import Derived.ProofKit
import Derived.OpenShut
import Derived.ShutString
import Derived.ChangeOld
import Derived.Below
import Derived.Test.YtldnmmnnohnpkaaGreatDoorIOA21
import Derived.Test.YtldnmmnnohnpkaaGreatDoorIOLaid
import Derived.Test.YtldnmmnnohnpkaaGreatDoorCards
import Derived.Test.YtldnmmnnohnpkaaGreatDoorTie
import Derived.LaidMore
import Derived.Stop.Joined
import Derived.SevenTiedAt
import Derived.Test.YtldnmmnnohnpkaaGreatDoorIOTot
import Derived.Test.YtldnmmnnohnpkaaGreatDoorIOGJw
namespace Go.Proofs.YtldnmmnnohnpkaaGreatDoor.interpOps
set_option linter.unusedVariables false
open Go.ChangeShapes Go.WideShapes Go.ChangeAt Go.RowKit
open Go.ChangeMaps (open_string shut_string)
theorem own:ownKnob Tryz.prog.godebug=none:=by kernel_rfl
theorem walk (a0:ByteArray) (w:World) (w0:a0.size<=maxLen) (hL:laidMetH Tryz.prog Rows.interpOpsRow.laid w) :
  Calls Tryz.prog 10 #[.string a0] w fun e w'=>e=.returned (.bool true)/\Below w.heap.size w w':=by
 have hC:=Abs.zoj (Abs.of_laidI hL);obtain ⟨nF,hLaw⟩:=Abs.zmD
 exact (Abs.zgP nF (a0.data.toList) true (hLaw (a0.data.toList)) [] (Abs.M.startG (Abs.zml Abs.zlR)) [.lit (.string (Abs.bs a0.data.toList))] ⟨rfl,rfl,Abs.tabsI_0,Abs.tabsI_1,Abs.tabsI_2,Abs.tabsI_3,Abs.tabsI_5⟩).claimG
  (fun xs w=>Tryz.call10 xs w) hC (Abs.tabsV_cr (fun _ _ _ h=>h) Abs.zoi) (Abs.CR.cons (Abs.CR.lit .nil) .nil)
set_option maxRecDepth 100000 in
theorem lifted (os:Os) (started:os.Started) (H:Type) (enc:TypeId × Value->H) :
  ReturnsInHanded {} Tryz.checked os 10 .any (fun w args=>(Rows.interpOpsSpec.pre enc Tryz.prog Tryz.f10 [] false w args/\laidMetH Tryz.prog Rows.interpOpsRow.laid w)/\sizedMet enc Tryz.prog Tryz.f10 (OpenSpec.ofChange Rows.interpOpsSpec) false w args)
   (Rows.interpOpsSpec.post enc Tryz.prog Tryz.f10 false true false false):=by
 refine returnsInHanded_of_change_and (C:=Tryz.checked) (X:=fun w _=>laidMetH Tryz.prog Rows.interpOpsRow.laid w) (fun _ _ _ hh h=>h.of_heap hh) own started (by kernel_rfl) Tryz.func10
  (ChangeSpec.witness_shaped (enc:=enc) (C:=Tryz.checked) (os:=os) (X:=fun w _=>laidMetH Tryz.prog Rows.interpOpsRow.laid w) false (World.doorLaid Tryz.prog 400 os) #[.string ⟨#[]⟩] 8 rfl (World.shaped_of_RefB (by kernel_rfl) (by kernel_rfl)) (by kernel_rfl) (by kernel_rfl) (by kernel_rfl) (Abs.zo0 os _)) ?_
 intro W base args ds gs before hval0 hW _ _ hL _;have hval:∀(j:Nat) t v,Tryz.f10.params[j]? = some t->args[j]? = some v->Value.okWide Tryz.prog W .any base t v:=hval0;have hW':=hW;obtain ⟨p,q,hA0,hV,rfl,hfz,hnd⟩:=hW;have hA:DataW.TrodAll enc Tryz.prog W 0 (fun _=>true) true Tryz.f10.params.toList args.toList ds p:=hA0;rw [Tryz.params10] at hA hval;obtain ⟨v0,vs0,d0,ds0,p0,q0,hargs,rfl,rfl,h0,r0⟩:=trodAll_cons hA;obtain ⟨rfl,rfl,rfl⟩:=trodAll_nil r0;obtain rfl:args=#[v0]:=by cases args;simp_all
 obtain ⟨rfl,rfl⟩:=trodVars_none hV;obtain ⟨a0,rfl,rfl,rfl,w0⟩:=open_string Tryz.underlying9 (hval 0 9 v0 rfl rfl) h0;clear hA0 hval0;simp only [List.append_nil] at hW';refine (walk a0 W w0 hL).mono fun e W' ⟨he,bel⟩=>?_;subst he;exact ⟨_,rfl,_,_,_,[],_,[],hW',trodAll_mk1 (shut_bool Tryz.underlying4 _),(trodAll_cons_mk (shut_string Tryz.underlying9 w0) trodAll_mk0),rfl,bel.frame _,fun h=>by cases h⟩
theorem over:Rows.interpOpsRow.holds Tryz.pinned (OpenSpec.ofChange Rows.interpOpsSpec):=
 OpenClaim.holds_of_wide 10 Tryz.f10 rfl rfl rfl rfl rfl rfl rfl ⟨rfl,rfl,rfl,rfl,rfl⟩ rfl rfl rfl rfl rfl (by kernel_rfl) Tryz.func10 (by kernel_rfl)
  (of_decide_eq_true (by kernel_rfl)) (by unfold Func.isWrapper;first | (rw [if_pos (by decide +kernel)];kernel_rfl) | (rw [if_neg (by decide +kernel)];exact ⟨rfl,rfl⟩))
  (fun os started H enc _=>lifted os started H enc)
theorem proved:Rows.InterpOpsCardSaid:=
 Claim7.holds_tied_plain_at .later [] [.data,.widerDeep,.data,.data,.data] true (true, "74b8e18d0c05697819f1ec8ca841f95387627565115b213af681bf18d8fb6613") false
  over (fun _ h=>by cases h) (by kernel_rfl) (fun _ h=>by cases h) interpOps_row_tie rfl ⟨rfl,rfl⟩ (by kernel_rfl) rfl
  (fun f fn hf hfn=>by
    obtain rfl:f=10:=Option.some.inj ((show Tryz.prog.funcNamed "remontoire/remontoirelaw13.InterpOps" = some 10 by kernel_rfl).symm.trans hf) |>.symm;obtain rfl:fn=Tryz.f10:=(Option.some.inj (Tryz.func10.symm.trans hfn)).symm
    exact ⟨by kernel_rfl,fun j t ht=>by
     rw [Tryz.params10] at ht;have hm:t ∈ [9]:=by simpa using Array.mem_of_getElem? ht
     have hall:([9].all fun u=>!Tryz.prog.wantsStandIn u)=true:=by kernel_rfl
     exact (show Tryz.prog.wantsStandIn t=false by simpa using List.all_eq_true.1 hall t hm)⟩)
  (by kernel_rfl)
#print axioms proved
end Go.Proofs.YtldnmmnnohnpkaaGreatDoor.interpOps
