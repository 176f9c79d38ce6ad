/-
 InterpLongs: the claim. The frame follows the kit's proof-skeleton.mjs and the guide's worked example of listed variables; printed by a program of mine (claimgen.py).
-/
import Derived.Test.YtldnmmnnohnpkaaGreatDoorRows
import Derived.WalkKit
import Derived.ProofKit
import Derived.OpenShut
import Derived.ShutString
import Derived.ChangeOld
import Derived.Below
import Derived.Test.YtldnmmnnohnpkaaGreatDoorILA21
import Derived.Test.YtldnmmnnohnpkaaGreatDoorILLaid
import Derived.Test.YtldnmmnnohnpkaaGreatDoorCards
import Derived.Test.YtldnmmnnohnpkaaGreatDoorTie
import Derived.LaidMore
import Derived.Stop.Joined
import Derived.SevenTiedAt
import Derived.Test.YtldnmmnnohnpkaaGreatDoorILTot
import Derived.Test.YtldnmmnnohnpkaaGreatDoorILGJw
namespace Go.Proofs.YtldnmmnnohnpkaaGreatDoor.interpLongs
set_option linter.unusedVariables false
open Go.ChangeShapes Go.WideShapes Go.ChangeAt Go.RowKit
open Go.ChangeMaps (open_string shut_string)
theorem own:ownKnob Tryz.prog.godebug=none:=by kernel_rfl
theorem walk (a0:Int) (a1:Int) (w:World) (w0:(Lit.int .u64 a0).wf=true) (w1:(Lit.int .u64 a1).wf=true) (hL:laidMetH Tryz.prog Rows.interpLongsRow.laid w) :
  Calls Tryz.prog 9 #[.int .u64 a0,.int .u64 a1] w fun e w'=>e=.returned (.bool true)/\Below w.heap.size w w':=by
 have hC:=Abs.zop (Abs.of_laidI hL);obtain ⟨nF,hLaw⟩:=Abs.zly
 exact (Abs.zgq nF a0 a1 true (hLaw a0 a1 w0 w1) [] (Abs.M.startG (Abs.zmo Abs.zlT)) [.lit (.int .u64 a0),.lit (.int .u64 a1)] ⟨rfl,rfl,Abs.tabsI_0,Abs.tabsI_1,Abs.tabsI_2,Abs.tabsI_3,Abs.tabsI_5⟩).claimG
  (fun xs w=>Tryz.call9 xs w) hC (Abs.tabsV_cr (fun _ _ _ h=>h) Abs.zoo) (Abs.CR.cons (Abs.CR.lit .nil) (Abs.CR.cons (Abs.CR.lit .nil) .nil))
set_option maxRecDepth 100000 in
theorem lifted (os:Os) (started:os.Started) (H:Type) (enc:TypeId × Value->H) :
  ReturnsInHanded {} Tryz.checked os 9 .any (fun w args=>(Rows.interpLongsSpec.pre enc Tryz.prog Tryz.f9 [] false w args/\laidMetH Tryz.prog Rows.interpLongsRow.laid w)/\sizedMet enc Tryz.prog Tryz.f9 (OpenSpec.ofChange Rows.interpLongsSpec) false w args)
   (Rows.interpLongsSpec.post enc Tryz.prog Tryz.f9 false true false false):=by
 refine returnsInHanded_of_change_and (C:=Tryz.checked) (X:=fun w _=>laidMetH Tryz.prog Rows.interpLongsRow.laid w) (fun _ _ _ hh h=>h.of_heap hh) own started (by kernel_rfl) Tryz.func9
  (ChangeSpec.witness_shaped (enc:=enc) (C:=Tryz.checked) (os:=os) (X:=fun w _=>laidMetH Tryz.prog Rows.interpLongsRow.laid w) false (World.doorLaid Tryz.prog 400 os) #[.int .u64 0,.int .u64 0] 8 rfl (World.shaped_of_RefB (by kernel_rfl) (by kernel_rfl)) (by kernel_rfl) (by kernel_rfl) (by kernel_rfl) (Abs.zpa os _)) ?_
 intro W base args ds gs before hval0 hW _ _ hL _;have hval:∀(j:Nat) t v,Tryz.f9.params[j]? = some t->args[j]? = some v->Value.okWide Tryz.prog W .any base t v:=hval0;have hW':=hW;obtain ⟨p,q,hA0,hV,rfl,hfz,hnd⟩:=hW;have hA:DataW.TrodAll enc Tryz.prog W 0 (fun _=>true) true Tryz.f9.params.toList args.toList ds p:=hA0;rw [Tryz.params9] at hA hval;obtain ⟨v0,vs0,d0,ds0,p0,q0,hargs,rfl,rfl,h0,r0⟩:=trodAll_cons hA;obtain ⟨v1,vs1,d1,ds1,p1,q1,rfl,rfl,rfl,h1,r1⟩:=trodAll_cons r0;obtain ⟨rfl,rfl,rfl⟩:=trodAll_nil r1;obtain rfl:args=#[v0,v1]:=by cases args;simp_all
 obtain ⟨rfl,rfl⟩:=trodVars_none hV;obtain ⟨a0,rfl,rfl,rfl,w0⟩:=open_int Tryz.underlying62 (hval 0 62 v0 rfl rfl) h0;obtain ⟨a1,rfl,rfl,rfl,w1⟩:=open_int Tryz.underlying62 (hval 1 62 v1 rfl rfl) h1;clear hA0 hval0;simp only [List.append_nil] at hW';refine (walk a0 a1 W w0 w1 hL).mono fun e W' ⟨he,bel⟩=>?_;subst he;exact ⟨_,rfl,_,_,_,[],_,[],hW',trodAll_mk1 (shut_bool Tryz.underlying4 _),(trodAll_cons_mk (shut_int Tryz.underlying62 w0) (trodAll_cons_mk (shut_int Tryz.underlying62 w1) trodAll_mk0)),rfl,bel.frame _,fun h=>by cases h⟩
theorem over:Rows.interpLongsRow.holds Tryz.pinned (OpenSpec.ofChange Rows.interpLongsSpec):=
 OpenClaim.holds_of_wide 9 Tryz.f9 rfl rfl rfl rfl rfl rfl rfl ⟨rfl,rfl,rfl,rfl,rfl⟩ rfl rfl rfl rfl rfl (by kernel_rfl) Tryz.func9 (by kernel_rfl)
  (of_decide_eq_true (by kernel_rfl)) (by unfold Func.isWrapper;first | (rw [if_pos (by decide +kernel)];kernel_rfl) | (rw [if_neg (by decide +kernel)];exact ⟨rfl,rfl⟩))
  (fun os started H enc _=>lifted os started H enc)
theorem proved:Rows.InterpLongsCardSaid:=
 Claim7.holds_tied_plain_at .later [] [.data,.widerDeep,.data,.data,.data] true (true, "74b8e18d0c05697819f1ec8ca841f95387627565115b213af681bf18d8fb6613") false
  over (fun _ h=>by cases h) (by kernel_rfl) (fun _ h=>by cases h) interpLongs_row_tie rfl ⟨rfl,rfl⟩ (by kernel_rfl) rfl
  (fun f fn hf hfn=>by
    obtain rfl:f=9:=Option.some.inj ((show Tryz.prog.funcNamed "remontoire/remontoirelaw13.InterpLongs" = some 9 by kernel_rfl).symm.trans hf) |>.symm;obtain rfl:fn=Tryz.f9:=(Option.some.inj (Tryz.func9.symm.trans hfn)).symm
    exact ⟨by kernel_rfl,fun j t ht=>by
     rw [Tryz.params9] at ht;have hm:t ∈ [62,62]:=by simpa using Array.mem_of_getElem? ht
     have hall:([62,62].all fun u=>!Tryz.prog.wantsStandIn u)=true:=by kernel_rfl
     exact (show Tryz.prog.wantsStandIn t=false by simpa using List.all_eq_true.1 hall t hm)⟩)
  (by kernel_rfl)
#print axioms proved
end Go.Proofs.YtldnmmnnohnpkaaGreatDoor.interpLongs
