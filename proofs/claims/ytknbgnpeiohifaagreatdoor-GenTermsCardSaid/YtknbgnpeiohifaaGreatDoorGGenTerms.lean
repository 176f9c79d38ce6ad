/-
 GenTerms: the claim. The frame follows the kit's proof-skeleton.mjs and the guide's worked example of listed variables; printed by a program of mine (claimgen.py).
-/
import Derived.ProofKit
import Derived.ShutString
import Derived.ChangeOld
import Derived.Test.YtknbgnpeiohifaaGreatDoorGLaid
import Derived.Test.YtknbgnpeiohifaaGreatDoorCards
import Derived.Test.YtknbgnpeiohifaaGreatDoorTie
import Derived.Stop.Joined
import Derived.SevenTiedAt
import Derived.Test.YtknbgnpeiohifaaGreatDoorGGn1
import Derived.Test.YtknbgnpeiohifaaGreatDoorGGCw
namespace Go.Proofs.YtknbgnpeiohifaaGreatDoor.genTerms
open Go.ChangeShapes Go.WideShapes Go.ChangeAt Go.RowKit
open Go.ChangeMaps (open_string shut_string)
set_option linter.unusedVariables false
theorem own:ownKnob Tryz.prog.godebug=none:=ze
theorem laidOut:laidOutB Tryz.prog=true:=ze
def IsRow (k:IntKind) (w:World) (a:Option Addr) (len cap:Nat) (zs:List Int):Prop:=
 (a=none/\len=0/\cap=0/\zs=[]) ∨
 ∃x,a=some x/\len<=cap/\cap<=maxLen/\zs.length=cap/\(∀i,i<zs.length->w.cell? (x.add i)=some (.int k (zs.getD i 0)))/\∀n ∈ zs,(Lit.int k n).wf=true
theorem walk (a0:Option Addr) (len0 cap0:Nat) (z0:List Int) (a1:Int) (w:World) (w0:IsRow .u8 w a0 len0 cap0 z0) (w1:(Lit.int .i64 a1).wf=true) (hL:laidMetH Tryz.prog Rows.genTermsRow.laid w) :
  Calls Tryz.prog 5 #[.slice a0 len0 cap0,.int .i64 a1] w λe w'=>e=.returned (.bool true)/\Below w.heap.size w w':=by
 have hC:=Abs.Xb (Abs.ZP hL);obtain ⟨G0,hC0,hS0,_,hw0⟩:=row_in w0;have hE0:∀b o v,(Abs.Lx Abs.Cq) b o=some v->KK (Abs.Lx Abs.Cq) G0 b o=some v:=λ_ _ _=>Vv;have hF0:∀b o v,G0 b o=some v->KK (Abs.Lx Abs.Cq) G0 b o=some v:=λ_ _ _=>TV hC hC0;replace hC:=Yf hC hC0;have k0:Is (KK (Abs.Lx Abs.Cq) G0) ((z0.take len0).map (Ys.int .u8)) a0 len0 cap0:=hS0.le λ_ _ _ h=>hF0 _ _ _ h;obtain ⟨nF,hLaw⟩:=Abs.TJ;have hS:=Abs.Dt nF;unfold Abs.xZ at hS
 exact (hS _ _ _ (hLaw ((((z0.take len0).map λz=>z.toNat.toUInt8))) a1) [] (Abs.M.startG (Abs.Ja Abs.Cq)) [.list .none (Abs.sH (((z0.take len0).map λz=>z.toNat.toUInt8))),.lit (.int .i64 a1)] ⟨rfl,rfl,Abs.tabsK_0,Abs.tabsK_1,Abs.tabsK_2,Abs.tabsK_3,Abs.tabsK_4,Abs.tabsK_5,Abs.tabsK_6,Abs.tabsK_8⟩).claimG
  (λxs w=>Tryz.call5 xs w) hC (Abs.Zk (λ_ _ _ h=>hE0 _ _ _ (h)) Abs.Xa) (Abs.CR.cons (Abs.zaV (c:=Abs.Conc.start w (KK (Abs.Lx Abs.Cq) G0)) k0 hw0) (Abs.CR.cons (Abs.CR.lit .nil) .nil))
set_option maxRecDepth 100000 in
theorem lifted (os:Os) (started:os.Started) (H:Type) (enc:TypeId × Value->H) :
  ReturnsInHanded {} Tryz.checked os 5 .any (λw args=>(Rows.genTermsSpec.pre enc Tryz.prog Tryz.f5 [] false w args/\laidMetH Tryz.prog Rows.genTermsRow.laid w)/\sizedMet enc Tryz.prog Tryz.f5 (OpenSpec.ofChange Rows.genTermsSpec) false w args)
   (Rows.genTermsSpec.post enc Tryz.prog Tryz.f5 false true false false):=by
 refine returnsInHanded_of_change_and (C:=Tryz.checked) (X:=λw _=>laidMetH Tryz.prog Rows.genTermsRow.laid w) (λ_ _ _ hh h=>h.of_heap hh) own started ze Tryz.func5
  (ChangeSpec.witness_shaped (enc:=enc) (C:=Tryz.checked) (os:=os) (X:=λw _=>laidMetH Tryz.prog Rows.genTermsRow.laid w) false (World.doorLaid Tryz.prog 400 os) #[.slice none 0 0,.int .i64 0] 8 rfl (World.shaped_of_RefB ze ze) ze ze ze (Abs.XV os _)) ?_
 intro W base args ds gs before hval0 hW _ _ hL _;have hval:∀(j:Nat) t v,Tryz.f5.params[j]? = some t->args[j]? = some v->Value.okWide Tryz.prog W .any base t v:=hval0;have hW':=hW;obtain ⟨p,q,hA0,hV,rfl,hfz,hnd⟩:=hW;have hA:DataW.TrodAll enc Tryz.prog W 0 (λ_=>true) true Tryz.f5.params.toList args.toList ds p:=hA0;rw [Tryz.params5] at hA hval;obtain ⟨v0,vs0,d0,ds0,p0,q0,hargs,rfl,rfl,h0,r0⟩:=trodAll_cons hA;obtain ⟨v1,vs1,d1,ds1,p1,q1,rfl,rfl,rfl,h1,r1⟩:=trodAll_cons r0;obtain ⟨rfl,rfl,rfl⟩:=trodAll_nil r1;obtain rfl:args=#[v0,v1]:=by cases args;simp_all
 obtain ⟨rfl,rfl⟩:=trodVars_none hV;obtain ⟨a0,len0,cap0,rfl⟩:=okWide_slice Tryz.underlying22 (hval 0 22 v0 rfl rfl);have k0:=h0;have lt0:∀x ∈ p0,x.block<W.heap.size:=by obtain ⟨m,hm⟩:=k0;exact DataW.trod_lt m _ _ _ hm
 obtain ⟨z0,w0⟩:∃zs,IsRow .u8 W a0 len0 cap0 zs:=by
  obtain ⟨fuel,hf⟩:=h0
  rcases open_ints Tryz.underlying22 Tryz.underlying5 ze hf with ⟨hcs,_⟩ | ⟨x,l,c,zs,hcs,_,hl,hm,hz,_,hcell,hwz⟩
  ·simp [Value.cells] at hcs
   obtain ⟨rfl,rfl,rfl⟩:=hcs;exact ⟨[],.inl ⟨rfl,rfl,rfl,rfl⟩⟩
  ·simp [Value.cells] at hcs
   obtain ⟨rfl,rfl,rfl⟩:=hcs;exact ⟨zs,.inr ⟨_,rfl,hl,hm,by simpa using hz,hcell,hwz⟩⟩
 obtain ⟨a1,rfl,rfl,rfl,w1⟩:=open_int Tryz.underlying3 (hval 1 3 v1 rfl rfl) h1;clear hA0 hval0;simp only [Fu] at hW';refine (walk a0 len0 cap0 z0 a1 W w0 w1 hL).mono λe W' ⟨he,bel⟩=>?_;subst he;exact ⟨_,rfl,_,_,_,[],_,[],hW',trodAll_mk1 (shut_bool Tryz.underlying4 _),(trodAll_cons_mk (Below.trod laidOut ze (xG ze) k0 bel lt0) (trodAll_cons_mk (shut_int Tryz.underlying3 w1) trodAll_mk0)),rfl,bel.frame _,λh=>by cases h⟩
set_option maxHeartbeats 4000000 in
theorem joinsUp:joinedFacts Tryz.prog 5 Tryz.f5 Rows.genTermsSpec Rows.genTermsRow=true:=by
 unfold joinedFacts;simp only [Su]
 and_intros
 all_goals as_aux_lemma=>kernel_rfl
theorem over:Rows.genTermsRow.holds Tryz.pinned (OpenSpec.ofChange Rows.genTermsSpec):=
 OpenClaim.holds_of_wide 5 Tryz.f5 rfl rfl rfl rfl rfl rfl rfl ⟨rfl,rfl,rfl,rfl,rfl⟩ rfl rfl rfl rfl rfl (by as_aux_lemma=>kernel_rfl) Tryz.func5 joinsUp
  (xG (by as_aux_lemma=>kernel_rfl)) (by unfold Func.isWrapper;first | (rw [cX (by decide +kernel)];kernel_rfl) | (rw [cE (by decide +kernel)];exact ⟨rfl,rfl⟩))
  (λos started H enc _=>lifted os started H enc)
theorem proved:Rows.GenTermsCardSaid:=
 Claim7.holds_tied_plain_at .later [] [.data,.data,.data,.widerDeep,.data,.data,.data,.data] true (true, "63c568434bec9fec0dc2fc25883b1994514b59449114ee7944fffaa65210d203") false
  over (λ_ h=>by cases h) (by as_aux_lemma=>kernel_rfl) (λ_ h=>by cases h) genTerms_row_tie rfl ⟨rfl,rfl⟩ (by as_aux_lemma=>kernel_rfl) rfl
  (λf fn hf hfn=>by
    obtain rfl:f=5:=Li ((show Tryz.prog.funcNamed "remontoire/remontoirelaw20.GenTerms" = some 5 by as_aux_lemma=>kernel_rfl).symm.trans hf) |>.symm;obtain rfl:fn=Tryz.f5:=(Li (Tryz.func5.symm.trans hfn)).symm
    exact ⟨by as_aux_lemma=>kernel_rfl,λj t ht=>by
     rw [Tryz.params5] at ht;have hm:t ∈ [22,3]:=by simpa using Array.mem_of_getElem? ht
     have hall:([22,3].all λu=>!Tryz.prog.wantsStandIn u)=true:=by as_aux_lemma=>kernel_rfl
     exact (show Tryz.prog.wantsStandIn t=false by simpa using Rj.1 hall t hm)⟩)
  (by as_aux_lemma=>kernel_rfl)
#print axioms proved
end Go.Proofs.YtknbgnpeiohifaaGreatDoor.genTerms
