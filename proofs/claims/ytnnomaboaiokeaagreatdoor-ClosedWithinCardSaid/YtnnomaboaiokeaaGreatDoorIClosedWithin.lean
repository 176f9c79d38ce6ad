/-
 ClosedWithin: the claim. The frame follows the kit's proof-skeleton.mjs and the guide's worked example of listed variables; printed by a program of mine (claimgen.py).
-/
import Derived.ProofKit
import Derived.ShutString
import Derived.ChangeOld
import Derived.Test.YtnnomaboaiokeaaGreatDoorILaid
import Derived.Test.YtnnomaboaiokeaaGreatDoorCards
import Derived.Test.YtnnomaboaiokeaaGreatDoorTie
import Derived.Stop.Joined
import Derived.SevenTiedAt
import Derived.Test.YtnnomaboaiokeaaGreatDoorIClo1
import Derived.Test.YtnnomaboaiokeaaGreatDoorIGCw
namespace Go.Proofs.YtnnomaboaiokeaaGreatDoor.closedWithin
open Go.ChangeShapes Go.WideShapes Go.ChangeAt Go.RowKit
open Go.ChangeMaps (open_string shut_string)
set_option linter.unusedVariables false
theorem own:ownKnob Tryz.prog.godebug=none:=by kernel_rfl
theorem Qk:laidOutB Tryz.prog=true:=by kernel_rfl
def QG (k:IntKind) (w:World) (a:Option Addr) (len cap:Nat) (zs:List Int):Prop:=
 (a=none/\len=0/\cap=0/\zs=[]) ∨
 ∃x,a=some x/\len<=cap/\cap<=maxLen/\zs.length=cap/\(∀i,i<zs.length->w.cell? (x.add i)=some (.int k (zs.getD i 0)))/\∀n ∈ zs,(Lit.int k n).wf=true
theorem walk (a0:Option Addr) (len0 cap0:Nat) (z0:List Int) (a1:Int) (a2:Option Addr) (len2 cap2:Nat) (z2:List Int) (a3:Int) (w:World) (w0:QG .u8 w a0 len0 cap0 z0) (w1:(Lit.int .i64 a1).wf=true) (w2:QG .u32 w a2 len2 cap2 z2) (w3:(Lit.int .i64 a3).wf=true) (hL:laidMetH Tryz.prog Rows.closedWithinRow.laid w) :
  Calls Tryz.prog 4 #[.slice a0 len0 cap0,.int .i64 a1,.slice a2 len2 cap2,.int .i64 a3] w λe w'=>e=.returned (.bool true)/\Below w.heap.size w w':=by
 have hC:=Abs.Rb (Abs.TW hL);obtain ⟨G0,hC0,hS0,_,hw0⟩:=TJ w0;have hE0:∀b o v,(Abs.CA Abs.wK) b o=some v->vR (Abs.CA Abs.wK) G0 b o=some v:=λ_ _ _=>KA;have hF0:∀b o v,G0 b o=some v->vR (Abs.CA Abs.wK) G0 b o=some v:=λ_ _ _=>IL hC hC0;replace hC:=LO hC hC0;obtain ⟨G2,hC2,hS2,_,hw2⟩:=TJ w2;have hE2:∀b o v,(vR (Abs.CA Abs.wK) G0) b o=some v->vR (vR (Abs.CA Abs.wK) G0) G2 b o=some v:=λ_ _ _=>KA;have hF2:∀b o v,G2 b o=some v->vR (vR (Abs.CA Abs.wK) G0) G2 b o=some v:=λ_ _ _=>IL hC hC2;replace hC:=LO hC hC2;have k0:CH (vR (vR (Abs.CA Abs.wK) G0) G2) ((z0.take len0).map (OH.int .u8)) a0 len0 cap0:=hS0.le λ_ _ _ h=>hE2 _ _ _ (hF0 _ _ _ h);have k2:CH (vR (vR (Abs.CA Abs.wK) G0) G2) ((z2.take len2).map (OH.int .u32)) a2 len2 cap2:=hS2.le λ_ _ _ h=>hF2 _ _ _ h;obtain ⟨nF,hLaw⟩:=Abs.Nc;have hS:=Abs.yP nF;unfold Abs.sO at hS
 exact (hS _ _ _ _ _ (hLaw ((((z0.take len0).map λz=>z.toNat.toUInt8))) a1 ((z2.take len2)) a3) [] (Abs.M.startG (Abs.Hi Abs.wK)) [.list .none (Abs.pR (((z0.take len0).map λz=>z.toNat.toUInt8))),.lit (.int .i64 a1),.list .none ((z2.take len2).map λz=>[.lit (.int .u32 z)]),.lit (.int .i64 a3)] ⟨rfl,rfl,Abs.tabsJ_0,Abs.tabsJ_1,Abs.tabsJ_2,Abs.tabsJ_3,Abs.tabsJ_4,Abs.tabsJ_6⟩).claimG
  (λxs w=>Tryz.call4 xs w) hC (Abs.Tp (λ_ _ _ h=>hE2 _ _ _ (hE0 _ _ _ (h))) Abs.QZ) (Abs.CR.cons (Abs.Vb (c:=Abs.Conc.start w (vR (vR (Abs.CA Abs.wK) G0) G2)) k0 hw0) (Abs.CR.cons (Abs.CR.lit .nil) (Abs.CR.cons (Abs.Ns (c:=Abs.Conc.start w (vR (vR (Abs.CA Abs.wK) G0) G2)) k2) (Abs.CR.cons (Abs.CR.lit .nil) .nil))))
set_option maxRecDepth 100000 in
theorem lifted (os:Os) (started:os.Started) (H:Type) (enc:TypeId × Value->H) :
  ReturnsInHanded {} Tryz.checked os 4 .any (λw args=>(Rows.closedWithinSpec.pre enc Tryz.prog Tryz.f4 [] false w args/\laidMetH Tryz.prog Rows.closedWithinRow.laid w)/\sizedMet enc Tryz.prog Tryz.f4 (OpenSpec.ofChange Rows.closedWithinSpec) false w args)
   (Rows.closedWithinSpec.post enc Tryz.prog Tryz.f4 false true false false):=by
 refine returnsInHanded_of_change_and (C:=Tryz.checked) (X:=λw _=>laidMetH Tryz.prog Rows.closedWithinRow.laid w) (λ_ _ _ hh h=>h.of_heap hh) own started (by kernel_rfl) Tryz.func4
  (ChangeSpec.witness_shaped (enc:=enc) (C:=Tryz.checked) (os:=os) (X:=λw _=>laidMetH Tryz.prog Rows.closedWithinRow.laid w) false (World.doorLaid Tryz.prog 400 os) #[.slice none 0 0,.int .i64 0,.slice none 0 0,.int .i64 0] 8 rfl (World.shaped_of_RefB (by kernel_rfl) (by kernel_rfl)) (by kernel_rfl) (by kernel_rfl) (by kernel_rfl) (Abs.RT os _)) ?_
 intro W base args ds gs before hval0 hW _ _ hL _;have hval:∀(j:Nat) t v,Tryz.f4.params[j]? = some t->args[j]? = some v->Value.okWide Tryz.prog W .any base t v:=hval0;have hW':=hW;obtain ⟨p,q,hA0,hV,rfl,hfz,hnd⟩:=hW;have hA:DataW.TrodAll enc Tryz.prog W 0 (λ_=>true) true Tryz.f4.params.toList args.toList ds p:=hA0;rw [Tryz.params4] at hA hval;obtain ⟨v0,vs0,d0,ds0,p0,q0,hargs,rfl,rfl,h0,r0⟩:=trodAll_cons hA;obtain ⟨v1,vs1,d1,ds1,p1,q1,rfl,rfl,rfl,h1,r1⟩:=trodAll_cons r0;obtain ⟨v2,vs2,d2,ds2,p2,q2,rfl,rfl,rfl,h2,r2⟩:=trodAll_cons r1;obtain ⟨v3,vs3,d3,ds3,p3,q3,rfl,rfl,rfl,h3,r3⟩:=trodAll_cons r2;obtain ⟨rfl,rfl,rfl⟩:=trodAll_nil r3;obtain rfl:args=#[v0,v1,v2,v3]:=by cases args;simp_all
 obtain ⟨rfl,rfl⟩:=trodVars_none hV;obtain ⟨a0,len0,cap0,rfl⟩:=okWide_slice Tryz.underlying22 (hval 0 22 v0 rfl rfl);have k0:=h0;have lt0:∀x ∈ p0,x.block<W.heap.size:=by obtain ⟨m,hm⟩:=k0;exact DataW.trod_lt m _ _ _ hm
 obtain ⟨z0,w0⟩:∃zs,QG .u8 W a0 len0 cap0 zs:=by
  obtain ⟨fuel,hf⟩:=h0
  rcases open_ints Tryz.underlying22 Tryz.underlying5 (by kernel_rfl) hf with ⟨hcs,_⟩ | ⟨x,l,c,zs,hcs,_,hl,hm,hz,_,hcell,hwz⟩
  ·simp [Value.cells] at hcs
   obtain ⟨rfl,rfl,rfl⟩:=hcs;exact ⟨[],.inl ⟨rfl,rfl,rfl,rfl⟩⟩
  ·simp [Value.cells] at hcs
   obtain ⟨rfl,rfl,rfl⟩:=hcs;exact ⟨zs,.inr ⟨_,rfl,hl,hm,by simpa using hz,hcell,hwz⟩⟩
 obtain ⟨a1,rfl,rfl,rfl,w1⟩:=open_int Tryz.underlying3 (hval 1 3 v1 rfl rfl) h1;obtain ⟨a2,len2,cap2,rfl⟩:=okWide_slice Tryz.underlying35 (hval 2 35 v2 rfl rfl);have k2:=h2;have lt2:∀x ∈ p2,x.block<W.heap.size:=by obtain ⟨m,hm⟩:=k2;exact DataW.trod_lt m _ _ _ hm
 obtain ⟨z2,w2⟩:∃zs,QG .u32 W a2 len2 cap2 zs:=by
  obtain ⟨fuel,hf⟩:=h2
  rcases open_ints Tryz.underlying35 Tryz.underlying43 (by kernel_rfl) hf with ⟨hcs,_⟩ | ⟨x,l,c,zs,hcs,_,hl,hm,hz,_,hcell,hwz⟩
  ·simp [Value.cells] at hcs
   obtain ⟨rfl,rfl,rfl⟩:=hcs;exact ⟨[],.inl ⟨rfl,rfl,rfl,rfl⟩⟩
  ·simp [Value.cells] at hcs
   obtain ⟨rfl,rfl,rfl⟩:=hcs;exact ⟨zs,.inr ⟨_,rfl,hl,hm,by simpa using hz,hcell,hwz⟩⟩
 obtain ⟨a3,rfl,rfl,rfl,w3⟩:=open_int Tryz.underlying3 (hval 3 3 v3 rfl rfl) h3;clear hA0 hval0;simp only [gS] at hW';refine (walk a0 len0 cap0 z0 a1 a2 len2 cap2 z2 a3 W w0 w1 w2 w3 hL).mono λe W' ⟨he,bel⟩=>?_;subst he;exact ⟨_,rfl,_,_,_,[],_,[],hW',trodAll_mk1 (shut_bool Tryz.underlying4 _),(trodAll_cons_mk (Below.trod Qk (by kernel_rfl) (AD (by kernel_rfl)) k0 bel lt0) (trodAll_cons_mk (shut_int Tryz.underlying3 w1) (trodAll_cons_mk (Below.trod Qk (by kernel_rfl) (AD (by kernel_rfl)) k2 bel lt2) (trodAll_cons_mk (shut_int Tryz.underlying3 w3) trodAll_mk0)))),rfl,bel.frame _,λh=>by cases h⟩
set_option maxHeartbeats 4000000 in
theorem joinsUp:joinedFacts Tryz.prog 4 Tryz.f4 Rows.closedWithinSpec Rows.closedWithinRow=true:=by
 unfold joinedFacts;simp only [HO]
 and_intros
 all_goals as_aux_lemma=>kernel_rfl
theorem over:Rows.closedWithinRow.holds Tryz.pinned (OpenSpec.ofChange Rows.closedWithinSpec):=
 OpenClaim.holds_of_wide 4 Tryz.f4 rfl rfl rfl rfl rfl rfl rfl ⟨rfl,rfl,rfl,rfl,rfl⟩ rfl rfl rfl rfl rfl (by as_aux_lemma=>kernel_rfl) Tryz.func4 joinsUp
  (AD (by as_aux_lemma=>kernel_rfl)) (by unfold Func.isWrapper;first | (rw [if_pos (by decide +kernel)];kernel_rfl) | (rw [if_neg (by decide +kernel)];exact ⟨rfl,rfl⟩))
  (λos started H enc _=>lifted os started H enc)
theorem proved:Rows.ClosedWithinCardSaid:=
 Claim7.holds_tied_plain_at .later [] [.data,.data,.widerDeep,.data,.data,.data] true (true, "0aba85e9eb29c09505c46b16cbe24abca84aa7df90c0db03ad9aecad7a4ba590") false
  over (λ_ h=>by cases h) (by as_aux_lemma=>kernel_rfl) (λ_ h=>by cases h) closedWithin_row_tie rfl ⟨rfl,rfl⟩ (by as_aux_lemma=>kernel_rfl) rfl
  (λf fn hf hfn=>by
    obtain rfl:f=4:=Option.some.inj ((show Tryz.prog.funcNamed "remontoire/remontoirelaw15.ClosedWithin" = some 4 by as_aux_lemma=>kernel_rfl).symm.trans hf) |>.symm;obtain rfl:fn=Tryz.f4:=(Option.some.inj (Tryz.func4.symm.trans hfn)).symm
    exact ⟨by as_aux_lemma=>kernel_rfl,λj t ht=>by
     rw [Tryz.params4] at ht;have hm:t ∈ [22,3,35,3]:=by simpa using Array.mem_of_getElem? ht
     have hall:([22,3,35,3].all λu=>!Tryz.prog.wantsStandIn u)=true:=by as_aux_lemma=>kernel_rfl
     exact (show Tryz.prog.wantsStandIn t=false by simpa using Iu.1 hall t hm)⟩)
  (by as_aux_lemma=>kernel_rfl)
#print axioms proved
end Go.Proofs.YtnnomaboaiokeaaGreatDoor.closedWithin
