/-
 CheckFinds: the claim. The frame follows the kit's proof-skeleton.mjs and the guide's worked example of listed variables; printed by a program of mine (claimgen.py).
-/
import Derived.Test.YtncembphlfbgoaaDoorRows
import Derived.WalkKit
import Derived.ProofKit
import Derived.OpenShut
import Derived.ShutString
import Derived.ChangeOld
import Derived.Below
import Derived.Test.YtncembphlfbgoaaDoorCFA21
import Derived.Test.YtncembphlfbgoaaDoorCFLaid
import Derived.Test.YtncembphlfbgoaaDoorCards
import Derived.Test.YtncembphlfbgoaaDoorTie
import Derived.LaidMore
import Derived.Stop.Joined
import Derived.SevenTiedAt
import Derived.Test.YtncembphlfbgoaaDoorCFCfl
import Derived.Test.YtncembphlfbgoaaDoorCFGLw
namespace Go.Proofs.YtncembphlfbgoaaDoor.checkFinds
open Go.ChangeShapes Go.WideShapes Go.ChangeAt Go.RowKit
open Go.ChangeMaps (open_string shut_string)
set_option linter.unusedVariables false
theorem own:ownKnob Tryd.prog.godebug=none:=by kernel_rfl
theorem laidOut:laidOutB Tryd.prog=true:=by kernel_rfl
def IsRow (k:IntKind) (w:World) (a:Option Addr) (len cap:Nat) (zs:List Int):Prop:=
 (a=none/\len=0/\cap=0/\zs=[]) ∨
 ∃x,a=some x/\len<=cap/\cap<=maxLen/\zs.length=cap/\(∀i,i<zs.length->w.cell? (x.add i)=some (.int k (zs.getD i 0)))/\∀n ∈ zs,(Lit.int k n).wf=true
theorem walk (a0:Option Addr) (len0 cap0:Nat) (z0:List Int) (a1:ByteArray) (a2:Int) (w:World) (w0:IsRow .u8 w a0 len0 cap0 z0) (w1:a1.size<=maxLen) (w2:(Lit.int .i64 a2).wf=true) (hL:laidMetH Tryd.prog Rows.checkFindsRow.laid w) :
  Calls Tryd.prog 3 #[.slice a0 len0 cap0,.string a1,.int .i64 a2] w fun e w'=>e=.returned (.bool true)/\Below w.heap.size w w':=by
 have hC:=Abs.GJ (Abs.II hL);obtain ⟨G0,hC0,hS0,_,hw0⟩:=row_in w0;have hE0:∀b o v,(Abs.Aq Abs.vE) b o=some v->zW (Abs.Aq Abs.vE) G0 b o=some v:=fun _ _ _=>FT;have hF0:∀b o v,G0 b o=some v->zW (Abs.Aq Abs.vE) G0 b o=some v:=fun _ _ _=>EO hC hC0;replace hC:=HL hC hC0;have k0:xF (zW (Abs.Aq Abs.vE) G0) ((z0.take len0).map (EX.int .u8)) a0 len0 cap0:=hS0.le fun _ _ _ h=>hF0 _ _ _ h;obtain ⟨nF,hLaw⟩:=Abs.Ji;have hS:=Abs.rJ nF;unfold Abs.nL at hS
 exact (hS _ _ _ _ (hLaw ((((z0.take len0).map fun z=>z.toNat.toUInt8))) (a1.data.toList) a2) [] (Abs.M.startG (Abs.BB Abs.vE)) [.list .none (Abs.lN (((z0.take len0).map fun z=>z.toNat.toUInt8))),.lit (.string (Abs.bs a1.data.toList)),.lit (.int .i64 a2)] ⟨rfl,rfl,Abs.tabsC_0,Abs.tabsC_1,Abs.tabsC_2,Abs.tabsC_4⟩).claimG
  (fun xs w=>Tryd.call3 xs w) hC (Abs.Im (fun _ _ _ h=>hE0 _ _ _ (h)) Abs.GK) (Abs.CR.cons (Abs.Jw (c:=Abs.Conc.start w (zW (Abs.Aq Abs.vE) G0)) k0 hw0) (Abs.CR.cons (Abs.CR.lit .nil) (Abs.CR.cons (Abs.CR.lit .nil) .nil)))
set_option maxRecDepth 100000 in
theorem lifted (os:Os) (started:os.Started) (H:Type) (enc:TypeId × Value->H) :
  ReturnsInHanded {} Tryd.checked os 3 .any (fun w args=>(Rows.checkFindsSpec.pre enc Tryd.prog Tryd.f3 [] false w args/\laidMetH Tryd.prog Rows.checkFindsRow.laid w)/\sizedMet enc Tryd.prog Tryd.f3 (OpenSpec.ofChange Rows.checkFindsSpec) false w args)
   (Rows.checkFindsSpec.post enc Tryd.prog Tryd.f3 false true false false):=by
 refine returnsInHanded_of_change_and (C:=Tryd.checked) (X:=fun w _=>laidMetH Tryd.prog Rows.checkFindsRow.laid w) (fun _ _ _ hh h=>h.of_heap hh) own started (by kernel_rfl) Tryd.func3
  (ChangeSpec.witness_shaped (enc:=enc) (C:=Tryd.checked) (os:=os) (X:=fun w _=>laidMetH Tryd.prog Rows.checkFindsRow.laid w) false (World.doorLaid Tryd.prog 400 os) #[.slice none 0 0,.string ⟨#[]⟩,.int .i64 0] 8 rfl (World.shaped_of_RefB (by kernel_rfl) (by kernel_rfl)) (by kernel_rfl) (by kernel_rfl) (by kernel_rfl) (Abs.Hx os _)) ?_
 intro W base args ds gs before hval0 hW _ _ hL _;have hval:∀(j:Nat) t v,Tryd.f3.params[j]? = some t->args[j]? = some v->Value.okWide Tryd.prog W .any base t v:=hval0;have hW':=hW;obtain ⟨p,q,hA0,hV,rfl,hfz,hnd⟩:=hW;have hA:DataW.TrodAll enc Tryd.prog W 0 (fun _=>true) true Tryd.f3.params.toList args.toList ds p:=hA0;rw [Tryd.params3] at hA hval;obtain ⟨v0,vs0,d0,ds0,p0,q0,hargs,rfl,rfl,h0,r0⟩:=trodAll_cons hA;obtain ⟨v1,vs1,d1,ds1,p1,q1,rfl,rfl,rfl,h1,r1⟩:=trodAll_cons r0;obtain ⟨v2,vs2,d2,ds2,p2,q2,rfl,rfl,rfl,h2,r2⟩:=trodAll_cons r1;obtain ⟨rfl,rfl,rfl⟩:=trodAll_nil r2;obtain rfl:args=#[v0,v1,v2]:=by cases args;simp_all
 obtain ⟨rfl,rfl⟩:=trodVars_none hV;obtain ⟨a0,len0,cap0,rfl⟩:=okWide_slice Tryd.underlying22 (hval 0 22 v0 rfl rfl);have k0:=h0;have lt0:∀x ∈ p0,x.block<W.heap.size:=by obtain ⟨m,hm⟩:=k0;exact DataW.trod_lt m _ _ _ hm
 obtain ⟨z0,w0⟩:∃zs,IsRow .u8 W a0 len0 cap0 zs:=by
  obtain ⟨fuel,hf⟩:=h0
  rcases open_ints Tryd.underlying22 Tryd.underlying5 (by kernel_rfl) hf with ⟨hcs,_⟩ | ⟨x,l,c,zs,hcs,_,hl,hm,hz,_,hcell,hwz⟩
  ·simp [Value.cells] at hcs
   obtain ⟨rfl,rfl,rfl⟩:=hcs;exact ⟨[],.inl ⟨rfl,rfl,rfl,rfl⟩⟩
  ·simp [Value.cells] at hcs
   obtain ⟨rfl,rfl,rfl⟩:=hcs;exact ⟨zs,.inr ⟨_,rfl,hl,hm,by simpa using hz,hcell,hwz⟩⟩
 obtain ⟨a1,rfl,rfl,rfl,w1⟩:=open_string Tryd.underlying9 (hval 1 9 v1 rfl rfl) h1;obtain ⟨a2,rfl,rfl,rfl,w2⟩:=open_int Tryd.underlying3 (hval 2 3 v2 rfl rfl) h2;clear hA0 hval0;simp only [List.append_nil] at hW';refine (walk a0 len0 cap0 z0 a1 a2 W w0 w1 w2 hL).mono fun e W' ⟨he,bel⟩=>?_;subst he;exact ⟨_,rfl,_,_,_,[],_,[],hW',trodAll_mk1 (shut_bool Tryd.underlying4 _),(trodAll_cons_mk (Below.trod laidOut (by kernel_rfl) (of_decide_eq_true (by kernel_rfl)) k0 bel lt0) (trodAll_cons_mk (shut_string Tryd.underlying9 w1) (trodAll_cons_mk (shut_int Tryd.underlying3 w2) trodAll_mk0))),rfl,bel.frame _,fun h=>by cases h⟩
theorem over:Rows.checkFindsRow.holds Tryd.pinned (OpenSpec.ofChange Rows.checkFindsSpec):=
 OpenClaim.holds_of_wide 3 Tryd.f3 rfl rfl rfl rfl rfl rfl rfl ⟨rfl,rfl,rfl,rfl,rfl⟩ rfl rfl rfl rfl rfl (by kernel_rfl) Tryd.func3 (by kernel_rfl)
  (of_decide_eq_true (by kernel_rfl)) (by unfold Func.isWrapper;first | (rw [if_pos (by decide +kernel)];kernel_rfl) | (rw [if_neg (by decide +kernel)];exact ⟨rfl,rfl⟩))
  (fun os started H enc _=>lifted os started H enc)
theorem proved:Rows.CheckFindsCardSaid:=
 Claim7.holds_tied_plain_at .later [] [.data,.widerDeep,.data,.data] true (true, "ace5e64ff809b88cf3248108d4fdfba240070eb13b0b46606f74d93ed5148275") false
  over (fun _ h=>by cases h) (by kernel_rfl) (fun _ h=>by cases h) checkFinds_row_tie rfl ⟨rfl,rfl⟩ (by kernel_rfl) rfl
  (fun f fn hf hfn=>by
    obtain rfl:f=3:=Option.some.inj ((show Tryd.prog.funcNamed "remontoire/remontoirelaw12.CheckFinds" = some 3 by kernel_rfl).symm.trans hf) |>.symm;obtain rfl:fn=Tryd.f3:=(Option.some.inj (Tryd.func3.symm.trans hfn)).symm
    exact ⟨by kernel_rfl,fun j t ht=>by
     rw [Tryd.params3] at ht;have hm:t ∈ [22,9,3]:=by simpa using Array.mem_of_getElem? ht
     have hall:([22,9,3].all fun u=>!Tryd.prog.wantsStandIn u)=true:=by kernel_rfl
     exact (show Tryd.prog.wantsStandIn t=false by simpa using List.all_eq_true.1 hall t hm)⟩)
  (by kernel_rfl)
#print axioms proved
end Go.Proofs.YtncembphlfbgoaaDoor.checkFinds
