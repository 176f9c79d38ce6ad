/-
 InterpFuel: the claim. The frame follows the kit's proof-skeleton.mjs and the guide's worked example of listed variables; printed by a program of mine (claimgen.py).
-/
import Derived.ShutString
import Derived.ChangeOld
import Derived.Test.YtncembphlfbgoaaGreatDoorIFLaid
import Derived.Test.YtncembphlfbgoaaGreatDoorCards
import Derived.Test.YtncembphlfbgoaaGreatDoorTie
import Derived.Stop.Joined
import Derived.SevenTiedAt
import Derived.Test.YtncembphlfbgoaaGreatDoorIFIfu1
import Derived.Test.YtncembphlfbgoaaGreatDoorIFGJw
namespace Go.Proofs.YtncembphlfbgoaaGreatDoor.interpFuel
open Go.ChangeShapes Go.WideShapes Go.ChangeAt Go.RowKit
open Go.ChangeMaps (open_string shut_string)
set_option linter.unusedVariables false
theorem own:ownKnob Tryz.prog.godebug=none:=by kernel_rfl
theorem MN:laidOutB Tryz.prog=true:=by kernel_rfl
def IsRow (k:IntKind) (w:World) (a:Option Addr) (len cap:Nat) (zs:List Int):Prop:=
 (a=none/\len=0/\cap=0/\zs=[]) ∨
 ∃x,a=some x/\len<=cap/\cap<=maxLen/\zs.length=cap/\(∀i,i<zs.length->w.cell? (x.add i)=some (.int k (zs.getD i 0)))/\∀n ∈ zs,(Lit.int k n).wf=true
theorem walk (a0:Option Addr) (len0 cap0:Nat) (z0:List Int) (a1:Int) (c2:Array Value) (ws2:List Int) (as2:List (List Int)) (a3:Int) (a4:Int) (w:World) (w0:IsRow .u8 w a0 len0 cap0 z0) (w1:(Lit.int .i64 a1).wf=true) (w2:∀z ∈ ws2,(Lit.int .u64 z).wf=true) (x2:∀c:Abs.Conc,c.G=Abs.xY w->Abs.CR c [.agg [.list .none (ws2.map fun z=>[.lit (.int .u64 z)]),.list .none (as2.map fun x=>[.list .none (x.map fun z=>[.lit (.int .u32 z)])])]] [.agg c2]) (w3:(Lit.int .i64 a3).wf=true) (w4:(Lit.int .i64 a4).wf=true) (hL:laidMetH Tryz.prog Rows.interpFuelRow.laid w) :
  Calls Tryz.prog 5 #[.slice a0 len0 cap0,.int .i64 a1,.agg c2,.int .i64 a3,.int .i64 a4] w fun e w'=>e=.returned (.bool true)/\Below w.heap.size w w':=by
 have hC:Em w (Abs.xY w):=Abs.Lm;obtain ⟨G0,hC0,hS0,_,hw0⟩:=row_in w0;have k0:Cs (Abs.xY w) ((z0.take len0).map (Mv.int .u8)) a0 len0 cap0:=hS0.le hC0;obtain ⟨nF,hLaw⟩:=Abs.HD;have hS:=Abs.wJ nF;unfold Abs.rJ at hS
 exact (hS _ _ _ _ _ _ (hLaw ((((z0.take len0).map fun z=>z.toNat.toUInt8))) a1 ((Abs.T_interp_Args.mk ws2 as2)) a3 a4 w2) [] (Abs.M.startG (Abs.FM Abs.EJ)) [.list .none (Abs.nG (((z0.take len0).map fun z=>z.toNat.toUInt8))),.lit (.int .i64 a1),.agg [.list .none (ws2.map fun z=>[.lit (.int .u64 z)]),.list .none (as2.map fun x=>[.list .none (x.map fun z=>[.lit (.int .u32 z)])])],.lit (.int .i64 a3),.lit (.int .i64 a4)] ⟨rfl,rfl,Abs.tabsI_0,Abs.tabsI_1,Abs.tabsI_2,Abs.tabsI_3,Abs.tabsI_5⟩).claimG
  (fun xs w=>Tryz.call5 xs w) hC (Abs.PL (fun _ _ _ h=>Abs.Nz (Abs.Ql hL) _ _ _ h) Abs.Ny) (Abs.CR.cons (Abs.Ri (c:=Abs.Conc.start w (Abs.xY w)) k0 hw0) (Abs.CR.cons (Abs.CR.lit .nil) (Abs.CR.cons (x2 _ rfl) (Abs.CR.cons (Abs.CR.lit .nil) (Abs.CR.cons (Abs.CR.lit .nil) .nil)))))
set_option maxRecDepth 100000 in
theorem lifted (os:Os) (started:os.Started) (H:Type) (enc:TypeId × Value->H) :
  ReturnsInHanded {} Tryz.checked os 5 .any (fun w args=>(Rows.interpFuelSpec.pre enc Tryz.prog Tryz.f5 [] false w args/\laidMetH Tryz.prog Rows.interpFuelRow.laid w)/\sizedMet enc Tryz.prog Tryz.f5 (OpenSpec.ofChange Rows.interpFuelSpec) false w args)
   (Rows.interpFuelSpec.post enc Tryz.prog Tryz.f5 false true false false):=by
 refine returnsInHanded_of_change_and (C:=Tryz.checked) (X:=fun w _=>laidMetH Tryz.prog Rows.interpFuelRow.laid w) (fun _ _ _ hh h=>h.of_heap hh) own started (by kernel_rfl) Tryz.func5
  (ChangeSpec.witness_shaped (enc:=enc) (C:=Tryz.checked) (os:=os) (X:=fun w _=>laidMetH Tryz.prog Rows.interpFuelRow.laid w) false (World.doorLaid Tryz.prog 400 os) #[.slice none 0 0,.int .i64 0,.agg #[.slice none 0 0,.slice none 0 0],.int .i64 0,.int .i64 0] 8 rfl (World.shaped_of_RefB (by kernel_rfl) (by kernel_rfl)) (by kernel_rfl) (by kernel_rfl) (by kernel_rfl) (Abs.OA os _)) ?_
 intro W base args ds gs before hval0 hW _ _ hL _;have hval:∀(j:Nat) t v,Tryz.f5.params[j]? = some t->args[j]? = some v->Value.okWide Tryz.prog W .any base t v:=hval0;have hW':=hW;obtain ⟨p,q,hA0,hV,rfl,hfz,hnd⟩:=hW;have hA:DataW.TrodAll enc Tryz.prog W 0 (fun _=>true) true Tryz.f5.params.toList args.toList ds p:=hA0;rw [Tryz.params5] at hA hval;obtain ⟨v0,vs0,d0,ds0,p0,q0,hargs,rfl,rfl,h0,r0⟩:=trodAll_cons hA;obtain ⟨v1,vs1,d1,ds1,p1,q1,rfl,rfl,rfl,h1,r1⟩:=trodAll_cons r0;obtain ⟨v2,vs2,d2,ds2,p2,q2,rfl,rfl,rfl,h2,r2⟩:=trodAll_cons r1;obtain ⟨v3,vs3,d3,ds3,p3,q3,rfl,rfl,rfl,h3,r3⟩:=trodAll_cons r2;obtain ⟨v4,vs4,d4,ds4,p4,q4,rfl,rfl,rfl,h4,r4⟩:=trodAll_cons r3;obtain ⟨rfl,rfl,rfl⟩:=trodAll_nil r4;obtain rfl:args=#[v0,v1,v2,v3,v4]:=by cases args;simp_all
 obtain ⟨rfl,rfl⟩:=trodVars_none hV;obtain ⟨a0,len0,cap0,rfl⟩:=okWide_slice Tryz.underlying22 (hval 0 22 v0 rfl rfl);have k0:=h0;have lt0:∀x ∈ p0,x.block<W.heap.size:=by obtain ⟨m,hm⟩:=k0;exact DataW.trod_lt m _ _ _ hm
 obtain ⟨z0,w0⟩:∃zs,IsRow .u8 W a0 len0 cap0 zs:=by
  obtain ⟨fuel,hf⟩:=h0
  rcases open_ints Tryz.underlying22 Tryz.underlying5 (by kernel_rfl) hf with ⟨hcs,_⟩ | ⟨x,l,c,zs,hcs,_,hl,hm,hz,_,hcell,hwz⟩
  ·simp [Value.cells] at hcs
   obtain ⟨rfl,rfl,rfl⟩:=hcs;exact ⟨[],.inl ⟨rfl,rfl,rfl,rfl⟩⟩
  ·simp [Value.cells] at hcs
   obtain ⟨rfl,rfl,rfl⟩:=hcs;exact ⟨zs,.inr ⟨_,rfl,hl,hm,by simpa using hz,hcell,hwz⟩⟩
 obtain ⟨a1,rfl,rfl,rfl,w1⟩:=open_int Tryz.underlying3 (hval 1 3 v1 rfl rfl) h1;obtain ⟨c2,rfl,_⟩:=okWide_struct Tryz.underlying54 (hval 2 54 v2 rfl rfl);have k2:=h2;have lt2:∀x ∈ p2,x.block<W.heap.size:=by obtain ⟨m,hm⟩:=k2;exact DataW.trod_lt m _ _ _ hm
 obtain ⟨ws2,as2,w2,x2⟩:∃(ws:List Int) (ys:List (List Int)),(∀z ∈ ws,(Lit.int .u64 z).wf=true)/\∀c:Abs.Conc,c.G=Abs.xY W->Abs.CR c [.agg [.list .none (ws.map fun z=>[.lit (.int .u64 z)]),.list .none (ys.map fun x=>[.list .none (x.map fun z=>[.lit (.int .u32 z)])])]] [.agg c2]:=by
  obtain ⟨fuel,hf⟩:=h2;obtain ⟨ws,ys,r1,_,r2⟩:=Abs.args_in Tryz.underlying54 rfl rfl rfl rfl (by kernel_rfl) (by kernel_rfl) (by kernel_rfl) Tryz.underlying51 Tryz.underlying56 (by kernel_rfl) Tryz.underlying52 Tryz.underlying72 Tryz.underlying23 (by kernel_rfl) (by kernel_rfl) hf;exact ⟨ws,ys,r1,r2⟩
 obtain ⟨a3,rfl,rfl,rfl,w3⟩:=open_int Tryz.underlying3 (hval 3 3 v3 rfl rfl) h3;obtain ⟨a4,rfl,rfl,rfl,w4⟩:=open_int Tryz.underlying3 (hval 4 3 v4 rfl rfl) h4;clear hA0 hval0;simp only [Ef] at hW';refine (walk a0 len0 cap0 z0 a1 c2 ws2 as2 a3 a4 W w0 w1 w2 x2 w3 w4 hL).mono fun e W' ⟨he,bel⟩=>?_;subst he;exact ⟨_,rfl,_,_,_,[],_,[],hW',trodAll_mk1 (shut_bool Tryz.underlying4 _),(trodAll_cons_mk (Below.trod MN (by kernel_rfl) (DW (by kernel_rfl)) k0 bel lt0) (trodAll_cons_mk (shut_int Tryz.underlying3 w1) (trodAll_cons_mk (Below.trod MN (by kernel_rfl) (DW (by kernel_rfl)) k2 bel lt2) (trodAll_cons_mk (shut_int Tryz.underlying3 w3) (trodAll_cons_mk (shut_int Tryz.underlying3 w4) trodAll_mk0))))),rfl,bel.frame _,fun h=>by cases h⟩
theorem over:Rows.interpFuelRow.holds Tryz.pinned (OpenSpec.ofChange Rows.interpFuelSpec):=
 OpenClaim.holds_of_wide 5 Tryz.f5 rfl rfl rfl rfl rfl rfl rfl ⟨rfl,rfl,rfl,rfl,rfl⟩ rfl rfl rfl rfl rfl (by kernel_rfl) Tryz.func5 (by kernel_rfl)
  (DW (by kernel_rfl)) (by unfold Func.isWrapper;first | (rw [if_pos (by decide +kernel)];kernel_rfl) | (rw [if_neg (by decide +kernel)];exact ⟨rfl,rfl⟩))
  (fun os started H enc _=>lifted os started H enc)
theorem proved:Rows.InterpFuelCardSaid:=
 Claim7.holds_tied_plain_at .later [] [.data,.widerDeep,.data,.data,.data] true (true, "d49b151bce3ae716ed8dff73120a89740c8238de04c0f13fe609ec1c0c82ad8b") false
  over (fun _ h=>by cases h) (by kernel_rfl) (fun _ h=>by cases h) interpFuel_row_tie rfl ⟨rfl,rfl⟩ (by kernel_rfl) rfl
  (fun f fn hf hfn=>by
    obtain rfl:f=5:=Option.some.inj ((show Tryz.prog.funcNamed "remontoire/remontoirelaw13.InterpFuel" = some 5 by kernel_rfl).symm.trans hf) |>.symm;obtain rfl:fn=Tryz.f5:=(Option.some.inj (Tryz.func5.symm.trans hfn)).symm
    exact ⟨by kernel_rfl,fun j t ht=>by
     rw [Tryz.params5] at ht;have hm:t ∈ [22,3,54,3,3]:=by simpa using Array.mem_of_getElem? ht
     have hall:([22,3,54,3,3].all fun u=>!Tryz.prog.wantsStandIn u)=true:=by kernel_rfl
     exact (show Tryz.prog.wantsStandIn t=false by simpa using FJ.1 hall t hm)⟩)
  (by kernel_rfl)
#print axioms proved
end Go.Proofs.YtncembphlfbgoaaGreatDoor.interpFuel
