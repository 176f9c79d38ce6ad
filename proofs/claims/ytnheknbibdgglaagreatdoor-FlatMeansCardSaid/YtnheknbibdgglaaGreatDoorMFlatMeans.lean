/-
 FlatMeans: the claim. The frame follows the kit's proof-skeleton.mjs and the guide's worked example of listed variables; printed by a program of mine (claimgen.py).
-/
import Derived.ProofKit
import Derived.ShutString
import Derived.ChangeOld
import Derived.Test.YtnheknbibdgglaaGreatDoorMLaid
import Derived.Test.YtnheknbibdgglaaGreatDoorCards
import Derived.Test.YtnheknbibdgglaaGreatDoorTie
import Derived.Stop.Joined
import Derived.SevenTiedAt
import Derived.Test.YtnheknbibdgglaaGreatDoorMIfu1
import Derived.Test.YtnheknbibdgglaaGreatDoorMArg
import Derived.Test.YtnheknbibdgglaaGreatDoorMGJw
namespace Go.Proofs.YtnheknbibdgglaaGreatDoor.flatMeans
open Go.ChangeShapes Go.WideShapes Go.ChangeAt Go.RowKit
open Go.ChangeMaps (open_string shut_string)
set_option linter.unusedVariables false
theorem own:ownKnob Tryz.prog.godebug=none:=zd
theorem Qq:laidOutB Tryz.prog=true:=zd
def IsRow (k:IntKind) (w:World) (a:Option Addr) (len cap:Nat) (zs:List Int):Prop:=
 (a=none/\len=0/\cap=0/\zs=[]) ∨
 ∃x,a=some x/\len<=cap/\cap<=maxLen/\zs.length=cap/\(∀i,i<zs.length->w.cell? (x.add i)=some (.int k (zs.getD i 0)))/\∀n ∈ zs,(Lit.int k n).wf=true
theorem walk (a0:Option Addr) (len0 cap0:Nat) (z0:List Int) (a1:Int) (c2:Array Value) (ws2:List Int) (as2:List (List Int)) (a3:Int) (w:World) (w0:IsRow .u8 w a0 len0 cap0 z0) (w1:(Lit.int .i64 a1).wf=true) (w2:∀z ∈ ws2,(Lit.int .u64 z).wf=true) (x2:∀c:Abs.Conc,c.G=Abs.AK w->Abs.CR c [.agg [.list .none (ws2.map λz=>[.lit (.int .u64 z)]),.list .none (as2.map λx=>[.list .none (x.map λz=>[.lit (.int .u32 z)])])]] [.agg c2]) (w3:(Lit.int .i64 a3).wf=true) (hL:laidMetH Tryz.prog Rows.flatMeansRow.laid w) :
  Calls Tryz.prog 4 #[.slice a0 len0 cap0,.int .i64 a1,.agg c2,.int .i64 a3] w λe w'=>e=.returned (.bool true)/\Below w.heap.size w w':=by
 have hC:GB w (Abs.AK w):=Abs.OE;obtain ⟨G0,hC0,hS0,_,hw0⟩:=row_in w0;have k0:Ex (Abs.AK w) ((z0.take len0).map (SK.int .u8)) a0 len0 cap0:=hS0.le hC0;obtain ⟨nF,hLaw⟩:=Abs.Mr;have hS:=Abs.zY nF;unfold Abs.tX at hS
 exact (hS _ _ _ _ _ (hLaw ((((z0.take len0).map λz=>z.toNat.toUInt8))) a1 ((Abs.T_interp_Args.mk ws2 as2)) a3 w2) [] (Abs.M.startG (Abs.Il Abs.GW)) [.list .none (Abs.pK (((z0.take len0).map λz=>z.toNat.toUInt8))),.lit (.int .i64 a1),.agg [.list .none (ws2.map λz=>[.lit (.int .u64 z)]),.list .none (as2.map λx=>[.list .none (x.map λz=>[.lit (.int .u32 z)])])],.lit (.int .i64 a3)] ⟨rfl,rfl,Abs.tabsI_0,Abs.tabsI_1,Abs.tabsI_2,Abs.tabsI_3,Abs.tabsI_6⟩).claimG
  (λxs w=>Tryz.call4 xs w) hC (Abs.Tv (λ_ _ _ h=>Abs.Rd (Abs.Ud hL) _ _ _ h) Abs.Rc) (Abs.CR.cons (Abs.Vj (c:=Abs.Conc.start w (Abs.AK w)) k0 hw0) (Abs.CR.cons (Abs.CR.lit .nil) (Abs.CR.cons (x2 _ rfl) (Abs.CR.cons (Abs.CR.lit .nil) .nil))))
set_option maxRecDepth 100000 in
theorem lifted (os:Os) (started:os.Started) (H:Type) (enc:TypeId × Value->H) :
  ReturnsInHanded {} Tryz.checked os 4 .any (λw args=>(Rows.flatMeansSpec.pre enc Tryz.prog Tryz.f4 [] false w args/\laidMetH Tryz.prog Rows.flatMeansRow.laid w)/\sizedMet enc Tryz.prog Tryz.f4 (OpenSpec.ofChange Rows.flatMeansSpec) false w args)
   (Rows.flatMeansSpec.post enc Tryz.prog Tryz.f4 false true false false):=by
 refine returnsInHanded_of_change_and (C:=Tryz.checked) (X:=λw _=>laidMetH Tryz.prog Rows.flatMeansRow.laid w) (λ_ _ _ hh h=>h.of_heap hh) own started zd Tryz.func4
  (ChangeSpec.witness_shaped (enc:=enc) (C:=Tryz.checked) (os:=os) (X:=λw _=>laidMetH Tryz.prog Rows.flatMeansRow.laid w) false (World.doorLaid Tryz.prog 400 os) #[.slice none 0 0,.int .i64 0,.agg #[.slice none 0 0,.slice none 0 0],.int .i64 0] 8 rfl (World.shaped_of_RefB zd zd) zd zd zd (Abs.Sh os _)) ?_
 intro W base args ds gs before hval0 hW _ _ hL _;have hval:∀(j:Nat) t v,Tryz.f4.params[j]? = some t->args[j]? = some v->Value.okWide Tryz.prog W .any base t v:=hval0;have hW':=hW;obtain ⟨p,q,hA0,hV,rfl,hfz,hnd⟩:=hW;have hA:DataW.TrodAll enc Tryz.prog W 0 (λ_=>true) true Tryz.f4.params.toList args.toList ds p:=hA0;rw [Tryz.params4] at hA hval;obtain ⟨v0,vs0,d0,ds0,p0,q0,hargs,rfl,rfl,h0,r0⟩:=trodAll_cons hA;obtain ⟨v1,vs1,d1,ds1,p1,q1,rfl,rfl,rfl,h1,r1⟩:=trodAll_cons r0;obtain ⟨v2,vs2,d2,ds2,p2,q2,rfl,rfl,rfl,h2,r2⟩:=trodAll_cons r1;obtain ⟨v3,vs3,d3,ds3,p3,q3,rfl,rfl,rfl,h3,r3⟩:=trodAll_cons r2;obtain ⟨rfl,rfl,rfl⟩:=trodAll_nil r3;obtain rfl:args=#[v0,v1,v2,v3]:=by cases args;simp_all
 obtain ⟨rfl,rfl⟩:=trodVars_none hV;obtain ⟨a0,len0,cap0,rfl⟩:=okWide_slice Tryz.underlying22 (hval 0 22 v0 rfl rfl);have k0:=h0;have lt0:∀x ∈ p0,x.block<W.heap.size:=by obtain ⟨m,hm⟩:=k0;exact DataW.trod_lt m _ _ _ hm
 obtain ⟨z0,w0⟩:∃zs,IsRow .u8 W a0 len0 cap0 zs:=by
  obtain ⟨fuel,hf⟩:=h0
  rcases open_ints Tryz.underlying22 Tryz.underlying5 zd hf with ⟨hcs,_⟩ | ⟨x,l,c,zs,hcs,_,hl,hm,hz,_,hcell,hwz⟩
  ·simp [Value.cells] at hcs
   obtain ⟨rfl,rfl,rfl⟩:=hcs;exact ⟨[],.inl ⟨rfl,rfl,rfl,rfl⟩⟩
  ·simp [Value.cells] at hcs
   obtain ⟨rfl,rfl,rfl⟩:=hcs;exact ⟨zs,.inr ⟨_,rfl,hl,hm,by simpa using hz,hcell,hwz⟩⟩
 obtain ⟨a1,rfl,rfl,rfl,w1⟩:=open_int Tryz.underlying3 (hval 1 3 v1 rfl rfl) h1;obtain ⟨c2,rfl,_⟩:=okWide_struct Tryz.underlying59 (hval 2 59 v2 rfl rfl);have k2:=h2;have lt2:∀x ∈ p2,x.block<W.heap.size:=by obtain ⟨m,hm⟩:=k2;exact DataW.trod_lt m _ _ _ hm
 obtain ⟨ws2,as2,w2,x2⟩:∃(ws:List Int) (ys:List (List Int)),(∀z ∈ ws,(Lit.int .u64 z).wf=true)/\∀c:Abs.Conc,c.G=Abs.AK W->Abs.CR c [.agg [.list .none (ws.map λz=>[.lit (.int .u64 z)]),.list .none (ys.map λx=>[.list .none (x.map λz=>[.lit (.int .u32 z)])])]] [.agg c2]:=by
  obtain ⟨fuel,hf⟩:=h2;obtain ⟨ws,ys,r1,_,r2⟩:=Abs.args_in Tryz.underlying59 rfl rfl rfl rfl zd zd zd Tryz.underlying56 Tryz.underlying64 zd Tryz.underlying57 Tryz.underlying35 Tryz.underlying43 zd zd hf;exact ⟨ws,ys,r1,r2⟩
 obtain ⟨a3,rfl,rfl,rfl,w3⟩:=open_int Tryz.underlying3 (hval 3 3 v3 rfl rfl) h3;clear hA0 hval0;simp only [ER] at hW';refine (walk a0 len0 cap0 z0 a1 c2 ws2 as2 a3 W w0 w1 w2 x2 w3 hL).mono λe W' ⟨he,bel⟩=>?_;subst he;exact ⟨_,rfl,_,_,_,[],_,[],hW',trodAll_mk1 (shut_bool Tryz.underlying4 _),(trodAll_cons_mk (Below.trod Qq zd (EG zd) k0 bel lt0) (trodAll_cons_mk (shut_int Tryz.underlying3 w1) (trodAll_cons_mk (Below.trod Qq zd (EG zd) k2 bel lt2) (trodAll_cons_mk (shut_int Tryz.underlying3 w3) trodAll_mk0)))),rfl,bel.frame _,λh=>by cases h⟩
set_option maxHeartbeats 4000000 in
theorem joinsUp:joinedFacts Tryz.prog 4 Tryz.f4 Rows.flatMeansSpec Rows.flatMeansRow=true:=by
 unfold joinedFacts;simp only [KN]
 and_intros
 all_goals as_aux_lemma=>kernel_rfl
theorem over:Rows.flatMeansRow.holds Tryz.pinned (OpenSpec.ofChange Rows.flatMeansSpec):=
 OpenClaim.holds_of_wide 4 Tryz.f4 rfl rfl rfl rfl rfl rfl rfl ⟨rfl,rfl,rfl,rfl,rfl⟩ rfl rfl rfl rfl rfl (by as_aux_lemma=>kernel_rfl) Tryz.func4 joinsUp
  (EG (by as_aux_lemma=>kernel_rfl)) (by unfold Func.isWrapper;first | (rw [cG (by decide +kernel)];kernel_rfl) | (rw [bU (by decide +kernel)];exact ⟨rfl,rfl⟩))
  (λos started H enc _=>lifted os started H enc)
theorem proved:Rows.FlatMeansCardSaid:=
 Claim7.holds_tied_plain_at .later [] [.data,.widerDeep,.data,.data,.data] true (true, "652a6d47258dafec8c95187b008d7fdb4d99c12db485e0c574f6270096fc777e") false
  over (λ_ h=>by cases h) (by as_aux_lemma=>kernel_rfl) (λ_ h=>by cases h) flatMeans_row_tie rfl ⟨rfl,rfl⟩ (by as_aux_lemma=>kernel_rfl) rfl
  (λf fn hf hfn=>by
    obtain rfl:f=4:=jN ((show Tryz.prog.funcNamed "remontoire/remontoirelaw14.FlatMeans" = some 4 by as_aux_lemma=>kernel_rfl).symm.trans hf) |>.symm;obtain rfl:fn=Tryz.f4:=(jN (Tryz.func4.symm.trans hfn)).symm
    exact ⟨by as_aux_lemma=>kernel_rfl,λj t ht=>by
     rw [Tryz.params4] at ht;have hm:t ∈ [22,3,59,3]:=by simpa using Array.mem_of_getElem? ht
     have hall:([22,3,59,3].all λu=>!Tryz.prog.wantsStandIn u)=true:=by as_aux_lemma=>kernel_rfl
     exact (show Tryz.prog.wantsStandIn t=false by simpa using KK.1 hall t hm)⟩)
  (by as_aux_lemma=>kernel_rfl)
#print axioms proved
end Go.Proofs.YtnheknbibdgglaaGreatDoor.flatMeans
