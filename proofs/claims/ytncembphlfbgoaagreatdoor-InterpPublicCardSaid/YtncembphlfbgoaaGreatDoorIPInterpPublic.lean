/-
 InterpPublic: the claim. The frame follows the kit's proof-skeleton.mjs and the guide's worked example of listed variables; printed by a program of mine (claimgen.py).
-/
import Derived.ShutString
import Derived.ChangeOld
import Derived.Test.YtncembphlfbgoaaGreatDoorIPLaid
import Derived.Test.YtncembphlfbgoaaGreatDoorCards
import Derived.Test.YtncembphlfbgoaaGreatDoorTie
import Derived.Stop.Joined
import Derived.SevenTiedAt
import Derived.Test.YtncembphlfbgoaaGreatDoorIPIfu1
import Derived.Test.YtncembphlfbgoaaGreatDoorIPIpw
namespace Go.Proofs.YtncembphlfbgoaaGreatDoor.interpPublic
open Go.ChangeShapes Go.WideShapes Go.ChangeAt Go.RowKit
open Go.ChangeMaps (open_string shut_string)
set_option linter.unusedVariables false
theorem own:ownKnob Tryz.prog.godebug=none:=by kernel_rfl
theorem JF:laidOutB Tryz.prog=true:=by kernel_rfl
def IsRow (k:IntKind) (w:World) (a:Option Addr) (len cap:Nat) (zs:List Int):Prop:=
 (a=none/\len=0/\cap=0/\zs=[]) ∨
 ∃x,a=some x/\len<=cap/\cap<=maxLen/\zs.length=cap/\(∀i,i<zs.length->w.cell? (x.add i)=some (.int k (zs.getD i 0)))/\∀n ∈ zs,(Lit.int k n).wf=true
theorem walk (a0:Option Addr) (len0 cap0:Nat) (z0:List Int) (a1:Int) (c2:Array Value) (ws2:List Int) (as2:List (List Int)) (c3:Array Value) (ws3:List Int) (as3:List (List Int)) (a4:Int) (w:World) (w0:IsRow .u8 w a0 len0 cap0 z0) (w1:(Lit.int .i64 a1).wf=true) (w2:∀z ∈ ws2,(Lit.int .u64 z).wf=true) (x2:∀c:Abs.Conc,c.G=Abs.vY w->Abs.CR c [.agg [.list .none (ws2.map fun z=>[.lit (.int .u64 z)]),.list .none (as2.map fun x=>[.list .none (x.map fun z=>[.lit (.int .u32 z)])])]] [.agg c2]) (w3:∀z ∈ ws3,(Lit.int .u64 z).wf=true) (x3:∀c:Abs.Conc,c.G=Abs.vY w->Abs.CR c [.agg [.list .none (ws3.map fun z=>[.lit (.int .u64 z)]),.list .none (as3.map fun x=>[.list .none (x.map fun z=>[.lit (.int .u32 z)])])]] [.agg c3]) (w4:(Lit.int .i64 a4).wf=true) (hL:laidMetH Tryz.prog Rows.interpPublicRow.laid w) :
  Calls Tryz.prog 6 #[.slice a0 len0 cap0,.int .i64 a1,.agg c2,.agg c3,.int .i64 a4] w fun e w'=>e=.returned (.bool true)/\Below w.heap.size w w':=by
 have hC:Ez w (Abs.vY w):=Abs.LT;obtain ⟨G0,hC0,hS0,_,hw0⟩:=row_in w0;have k0:CD (Abs.vY w) ((z0.take len0).map (Na.int .u8)) a0 len0 cap0:=hS0.le hC0;obtain ⟨nF,hLaw⟩:=Abs.Gv;have hS:=Abs.vR nF;unfold Abs.qX at hS
 exact (hS _ _ _ _ _ _ (hLaw ((((z0.take len0).map fun z=>z.toNat.toUInt8))) a1 ((Abs.T_interp_Args.mk ws2 as2)) ((Abs.T_interp_Args.mk ws3 as3)) a4 w2 w3) [] (Abs.M.startG (Abs.Ge Abs.EU)) [.list .none (Abs.nQ (((z0.take len0).map fun z=>z.toNat.toUInt8))),.lit (.int .i64 a1),.agg [.list .none (ws2.map fun z=>[.lit (.int .u64 z)]),.list .none (as2.map fun x=>[.list .none (x.map fun z=>[.lit (.int .u32 z)])])],.agg [.list .none (ws3.map fun z=>[.lit (.int .u64 z)]),.list .none (as3.map fun x=>[.list .none (x.map fun z=>[.lit (.int .u32 z)])])],.lit (.int .i64 a4)] ⟨rfl,rfl,Abs.tabsI_0,Abs.tabsI_1,Abs.tabsI_2,Abs.tabsI_3,Abs.tabsI_5⟩).claimG
  (fun xs w=>Tryz.call6 xs w) hC (Abs.Qw (fun _ _ _ h=>Abs.Of (Abs.QX hL) _ _ _ h) Abs.Oe) (Abs.CR.cons (Abs.RX (c:=Abs.Conc.start w (Abs.vY w)) k0 hw0) (Abs.CR.cons (Abs.CR.lit .nil) (Abs.CR.cons (x2 _ rfl) (Abs.CR.cons (x3 _ rfl) (Abs.CR.cons (Abs.CR.lit .nil) .nil)))))
set_option maxRecDepth 100000 in
theorem lifted (os:Os) (started:os.Started) (H:Type) (enc:TypeId × Value->H) :
  ReturnsInHanded {} Tryz.checked os 6 .any (fun w args=>(Rows.interpPublicSpec.pre enc Tryz.prog Tryz.f6 [] false w args/\laidMetH Tryz.prog Rows.interpPublicRow.laid w)/\sizedMet enc Tryz.prog Tryz.f6 (OpenSpec.ofChange Rows.interpPublicSpec) false w args)
   (Rows.interpPublicSpec.post enc Tryz.prog Tryz.f6 false true false false):=by
 refine returnsInHanded_of_change_and (C:=Tryz.checked) (X:=fun w _=>laidMetH Tryz.prog Rows.interpPublicRow.laid w) (fun _ _ _ hh h=>h.of_heap hh) own started (by kernel_rfl) Tryz.func6
  (ChangeSpec.witness_shaped (enc:=enc) (C:=Tryz.checked) (os:=os) (X:=fun w _=>laidMetH Tryz.prog Rows.interpPublicRow.laid w) false (World.doorLaid Tryz.prog 400 os) #[.slice none 0 0,.int .i64 0,.agg #[.slice none 0 0,.slice none 0 0],.agg #[.slice none 0 0,.slice none 0 0],.int .i64 0] 8 rfl (World.shaped_of_RefB (by kernel_rfl) (by kernel_rfl)) (by kernel_rfl) (by kernel_rfl) (by kernel_rfl) (Abs.Pi os _)) ?_
 intro W base args ds gs before hval0 hW _ _ hL _;have hval:∀(j:Nat) t v,Tryz.f6.params[j]? = some t->args[j]? = some v->Value.okWide Tryz.prog W .any base t v:=hval0;have hW':=hW;obtain ⟨p,q,hA0,hV,rfl,hfz,hnd⟩:=hW;have hA:DataW.TrodAll enc Tryz.prog W 0 (fun _=>true) true Tryz.f6.params.toList args.toList ds p:=hA0;rw [Tryz.params6] at hA hval;obtain ⟨v0,vs0,d0,ds0,p0,q0,hargs,rfl,rfl,h0,r0⟩:=trodAll_cons hA;obtain ⟨v1,vs1,d1,ds1,p1,q1,rfl,rfl,rfl,h1,r1⟩:=trodAll_cons r0;obtain ⟨v2,vs2,d2,ds2,p2,q2,rfl,rfl,rfl,h2,r2⟩:=trodAll_cons r1;obtain ⟨v3,vs3,d3,ds3,p3,q3,rfl,rfl,rfl,h3,r3⟩:=trodAll_cons r2;obtain ⟨v4,vs4,d4,ds4,p4,q4,rfl,rfl,rfl,h4,r4⟩:=trodAll_cons r3;obtain ⟨rfl,rfl,rfl⟩:=trodAll_nil r4;obtain rfl:args=#[v0,v1,v2,v3,v4]:=by cases args;simp_all
 obtain ⟨rfl,rfl⟩:=trodVars_none hV;obtain ⟨a0,len0,cap0,rfl⟩:=okWide_slice Tryz.underlying22 (hval 0 22 v0 rfl rfl);have k0:=h0;have lt0:∀x ∈ p0,x.block<W.heap.size:=by obtain ⟨m,hm⟩:=k0;exact DataW.trod_lt m _ _ _ hm
 obtain ⟨z0,w0⟩:∃zs,IsRow .u8 W a0 len0 cap0 zs:=by
  obtain ⟨fuel,hf⟩:=h0
  rcases open_ints Tryz.underlying22 Tryz.underlying5 (by kernel_rfl) hf with ⟨hcs,_⟩ | ⟨x,l,c,zs,hcs,_,hl,hm,hz,_,hcell,hwz⟩
  ·simp [Value.cells] at hcs
   obtain ⟨rfl,rfl,rfl⟩:=hcs;exact ⟨[],.inl ⟨rfl,rfl,rfl,rfl⟩⟩
  ·simp [Value.cells] at hcs
   obtain ⟨rfl,rfl,rfl⟩:=hcs;exact ⟨zs,.inr ⟨_,rfl,hl,hm,by simpa using hz,hcell,hwz⟩⟩
 obtain ⟨a1,rfl,rfl,rfl,w1⟩:=open_int Tryz.underlying3 (hval 1 3 v1 rfl rfl) h1;obtain ⟨c2,rfl,_⟩:=okWide_struct Tryz.underlying54 (hval 2 54 v2 rfl rfl);have k2:=h2;have lt2:∀x ∈ p2,x.block<W.heap.size:=by obtain ⟨m,hm⟩:=k2;exact DataW.trod_lt m _ _ _ hm
 obtain ⟨ws2,as2,w2,x2⟩:∃(ws:List Int) (ys:List (List Int)),(∀z ∈ ws,(Lit.int .u64 z).wf=true)/\∀c:Abs.Conc,c.G=Abs.vY W->Abs.CR c [.agg [.list .none (ws.map fun z=>[.lit (.int .u64 z)]),.list .none (ys.map fun x=>[.list .none (x.map fun z=>[.lit (.int .u32 z)])])]] [.agg c2]:=by
  obtain ⟨fuel,hf⟩:=h2;obtain ⟨ws,ys,r1,_,r2⟩:=Abs.NJ Tryz.underlying54 rfl rfl rfl rfl (by kernel_rfl) (by kernel_rfl) (by kernel_rfl) Tryz.underlying51 Tryz.underlying56 (by kernel_rfl) Tryz.underlying52 Tryz.underlying72 Tryz.underlying23 (by kernel_rfl) (by kernel_rfl) hf;exact ⟨ws,ys,r1,r2⟩
 obtain ⟨c3,rfl,_⟩:=okWide_struct Tryz.underlying54 (hval 3 54 v3 rfl rfl);have k3:=h3;have lt3:∀x ∈ p3,x.block<W.heap.size:=by obtain ⟨m,hm⟩:=k3;exact DataW.trod_lt m _ _ _ hm
 obtain ⟨ws3,as3,w3,x3⟩:∃(ws:List Int) (ys:List (List Int)),(∀z ∈ ws,(Lit.int .u64 z).wf=true)/\∀c:Abs.Conc,c.G=Abs.vY W->Abs.CR c [.agg [.list .none (ws.map fun z=>[.lit (.int .u64 z)]),.list .none (ys.map fun x=>[.list .none (x.map fun z=>[.lit (.int .u32 z)])])]] [.agg c3]:=by
  obtain ⟨fuel,hf⟩:=h3;obtain ⟨ws,ys,r1,_,r2⟩:=Abs.NJ Tryz.underlying54 rfl rfl rfl rfl (by kernel_rfl) (by kernel_rfl) (by kernel_rfl) Tryz.underlying51 Tryz.underlying56 (by kernel_rfl) Tryz.underlying52 Tryz.underlying72 Tryz.underlying23 (by kernel_rfl) (by kernel_rfl) hf;exact ⟨ws,ys,r1,r2⟩
 obtain ⟨a4,rfl,rfl,rfl,w4⟩:=open_int Tryz.underlying3 (hval 4 3 v4 rfl rfl) h4;clear hA0 hval0;simp only [Et] at hW';refine (walk a0 len0 cap0 z0 a1 c2 ws2 as2 c3 ws3 as3 a4 W w0 w1 w2 x2 w3 x3 w4 hL).mono fun e W' ⟨he,bel⟩=>?_;subst he;exact ⟨_,rfl,_,_,_,[],_,[],hW',trodAll_mk1 (shut_bool Tryz.underlying4 _),(trodAll_cons_mk (Below.trod JF (by kernel_rfl) (Dk (by kernel_rfl)) k0 bel lt0) (trodAll_cons_mk (shut_int Tryz.underlying3 w1) (trodAll_cons_mk (Below.trod JF (by kernel_rfl) (Dk (by kernel_rfl)) k2 bel lt2) (trodAll_cons_mk (Below.trod JF (by kernel_rfl) (Dk (by kernel_rfl)) k3 bel lt3) (trodAll_cons_mk (shut_int Tryz.underlying3 w4) trodAll_mk0))))),rfl,bel.frame _,fun h=>by cases h⟩
theorem over:Rows.interpPublicRow.holds Tryz.pinned (OpenSpec.ofChange Rows.interpPublicSpec):=
 OpenClaim.holds_of_wide 6 Tryz.f6 rfl rfl rfl rfl rfl rfl rfl ⟨rfl,rfl,rfl,rfl,rfl⟩ rfl rfl rfl rfl rfl (by kernel_rfl) Tryz.func6 (by kernel_rfl)
  (Dk (by kernel_rfl)) (by unfold Func.isWrapper;first | (rw [if_pos (by decide +kernel)];kernel_rfl) | (rw [if_neg (by decide +kernel)];exact ⟨rfl,rfl⟩))
  (fun os started H enc _=>lifted os started H enc)
theorem proved:Rows.InterpPublicCardSaid:=
 Claim7.holds_tied_plain_at .later [] [.data,.widerDeep,.data,.data,.data] true (true, "d49b151bce3ae716ed8dff73120a89740c8238de04c0f13fe609ec1c0c82ad8b") false
  over (fun _ h=>by cases h) (by kernel_rfl) (fun _ h=>by cases h) interpPublic_row_tie rfl ⟨rfl,rfl⟩ (by kernel_rfl) rfl
  (fun f fn hf hfn=>by
    obtain rfl:f=6:=Option.some.inj ((show Tryz.prog.funcNamed "remontoire/remontoirelaw13.InterpPublic" = some 6 by kernel_rfl).symm.trans hf) |>.symm;obtain rfl:fn=Tryz.f6:=(Option.some.inj (Tryz.func6.symm.trans hfn)).symm
    exact ⟨by kernel_rfl,fun j t ht=>by
     rw [Tryz.params6] at ht;have hm:t ∈ [22,3,54,54,3]:=by simpa using Array.mem_of_getElem? ht
     have hall:([22,3,54,54,3].all fun u=>!Tryz.prog.wantsStandIn u)=true:=by kernel_rfl
     exact (show Tryz.prog.wantsStandIn t=false by simpa using Ga.1 hall t hm)⟩)
  (by kernel_rfl)
#print axioms proved
end Go.Proofs.YtncembphlfbgoaaGreatDoor.interpPublic
