import Derived.Test.YtljbbjpbefjpiaaGreatDoorPH8
import Derived.Test.YtljbbjpbefjpiaaGreatDoorPBst
namespace Go.Proofs.YtljbbjpbefjpiaaGreatDoor.Abs
open Go.RowKit Tryz
open IntKind (i64 u32 u64 u8)
set_option linter.all false
set_option maxRecDepth 10000
set_option maxHeartbeats 2000000
open Tryz
@[go_sem high] theorem eqT_37_neq {x y:Operand} {C:V->Prop} {a0 b0:cB} {a1 b1:cB} {a2 b2:Int} {a3 b3:Int} {a4 b4:Int} {a5 b5:Int} {a6 b6:Int} {a7 b7:Int}:qQ prog .neq 37 x y (.agg [.ls a0,.ls a1,.li a2,.li a3,.li a4,.li a5,.li a6,.li a7]) (.agg [.ls b0,.ls b1,.li b2,.li b3,.li b4,.li b5,.li b6,.li b7]) C=C (.lb (!((decide (a0=b0)) && ((decide (a1=b1)) && ((a2 == b2) && ((a3 == b3) && ((a4 == b4) && ((a5 == b5) && ((a6 == b6) && (a7 == b7)))))))))):=by
 have h:=OG (P:=prog) (T:=37) (x:=x) (y:=y) (C:=C) (xs:=[.string (bs a0),.string (bs a1),.int .i64 a2,.int .i64 a3,.int .i64 a4,.int .i64 a5,.int .i64 a6,.int .i64 a7]) (ys:=[.string (bs b0),.string (bs b1),.int .i64 b2,.int .i64 b3,.int .i64 b4,.int .i64 b5,.int .i64 b6,.int .i64 b7]) (es:=[bs a0 == bs b0,bs a1 == bs b1,a2 == b2,a3 == b3,a4 == b4,a5 == b5,a6 == b6,a7 == b7]) (by kernel_rfl) (by kernel_rfl) (by kernel_rfl) (by kernel_rfl) (by kernel_rfl);simp only [iG,jA,List.all_cons,List.all_nil,kY,id,bs_beq] at h;exact h
instance:qW 5 (∀n,Ee (kD n)):=⟨Ia⟩
def tS (f:Option Bool):Prop:=∀r,f=some r->∀(q:Pa) (m:M) (vs:List V),vs.map V.weak1=[]/\(m.hp=λ_=>none)/\m.gl 0=.eptr [(cA bI.C cV)] 0 0/\m.gl 1=.eptr [(cA cS eY)] 0 0/\m.gl 2=.eptr [(cA cS cE)] 0 0/\m.gl 4=.eptr [(cA (cA cS) cQ)] 0 0->SC prog 4 vs q m (λv Y=>v=.lb r/\Y=m)
theorem Ah (n:Nat):tS (nY n):=λr h q m vs ⟨hv,_,_,_,_,_⟩=>SC.wva hv (gO func4 call4 ntmps4 results4 rfl (wk (.j 2 2 50 [.v 0 Bool λy=>.lb y] [] [] [] none .z .z) q m (nY.eq_1 _) h))
instance:qW 4 (∀n,tS (nY n)):=⟨Ah⟩
def tR (f:Int->Option cB):Prop:=∀a0 r,f a0=some r->FY prog 6 [.lw a0] (.ls r)
theorem Af (n:Nat):tR (mN n):=λa0 r h q m vs hv=>SC.wva hv (gO func6 call6 ntmps6 results6 rfl (wk (.l [.v 0 Int λy=>.lw y,.v 3 cB λy=>.ls y] [] [] [] none .z .z) q m (mN.eq_1 _ _) h))
instance:qW 6 (∀n,tR (mN n)):=⟨Af⟩
def nO (f:(List aI)->Option (List aM)):Prop:=∀a0 r,f a0=some r->FY prog 30 [.list .none (a0.map aI.C)] (.list .none (r.map aM.C))
theorem zE {iD} (zY:nO iD) (n:Nat):nO (nM iD n):=haveI:qW 30 (nO iD):=⟨zY⟩;λa0 r h q m vs hv=>SC.wva hv (gO func30 call30 ntmps30 results30 rfl (wk (.s 3 (.l [.o 3 (List aM) λy=>(y.map aM.C),.v 8 Int λy=>.li y] [6,7] [] [] none .z .z)) q m (nM.eq_1 _ _ _) h))
theorem tQ:∀n,nO (lS n)
 | 0=>λ_ _ h=>kJ h
 | n+1=>zE (tQ n) n
instance:qW 30 (∀n,nO (lS n)):=⟨tQ⟩
def nK (f:(List aG)->Option (List aM)):Prop:=∀a0 r,f a0=some r->FY prog 17 [.list .none (a0.map aG.C)] (.list .none (r.map aM.C))
theorem zD {gE} (zX:nK gE) (n:Nat):nK (nJ gE n):=haveI:qW 17 (nK gE):=⟨zX⟩;λa0 r h q m vs hv=>SC.wva hv (gO func17 call17 ntmps17 results17 rfl (wk (.s 3 (.l [.o 3 (List aM) λy=>(y.map aM.C),.v 8 Int λy=>.li y] [6,7] [] [] none .z .z)) q m (nJ.eq_1 _ _ _) h))
theorem tP:∀n,nK (gF n)
 | 0=>λ_ _ h=>kJ h
 | n+1=>zD (tP n) n
instance:qW 17 (∀n,nK (gF n)):=⟨tP⟩
def vE (f:cY->Option (List aM)):Prop:=∀a0 r,f a0=some r->FY prog 8 [.agg ((cY.C a0))] (.list .none (r.map aM.C))
theorem Bi (n:Nat):vE (jM n):=λa0 r h q m vs hv=>SC.wva hv (gO func8 call8 ntmps8 results8 rfl (wk (.s 3 (.l [.o 3 (List aM) λy=>(y.map aM.C),.v 12 Int λy=>.li y] [10,11] [] [] none (.c (.j 1 1 40 [.o 3 (List aM) λy=>(y.map aM.C)] [10,11,12] [] [] none (.c (.l [.o 3 (List aM) λy=>(y.map aM.C),.v 39 Int λy=>.li y] [5,10,11,12,37,38] [5] [] none .z .z) (.l [.o 3 (List aM) λy=>(y.map aM.C),.v 39 Int λy=>.li y] [5,10,11,12,37,38] [5] [] none .z .z)) .z) .z) .z)) q m (jM.eq_1 _ _) h))
instance:qW 8 (∀n,vE (jM n)):=⟨Bi⟩
def rT (f:cB->Int->Option Bool):Prop:=∀a0 a1 r,f a0 a1=some r->∀(q:Pa) (m:M) (vs:List V),vs.map V.weak1=[.list .none (mT a0),.lw a1]/\(m.hp=λ_=>none)/\m.gl 0=.eptr [(cA bI.C cV)] 0 0/\m.gl 1=.eptr [(cA cS eY)] 0 0/\m.gl 2=.eptr [(cA cS cE)] 0 0/\m.gl 4=.eptr [(cA (cA cS) cQ)] 0 0->SC prog 3 vs q m (λv Y=>v=.lb r/\Y=m)
theorem wQ (n:Nat):rT (lV n):=λa0 a1 r h q m vs ⟨hv,_,_,_,_,_⟩=>SC.wva hv (gO func3 call3 ntmps3 results3 rfl (wk (.c .z (.c .z (.c .z (.c (.j 2 11 56 [.v 4 Bool λy=>.lb y] [] [] [] none .z .z) (.j 2 13 58 [.v 78 Bool λy=>.lb y] [13,14] [] [] none .z (.c .z (.l [.v 81 Int λy=>.li y] [13,14,80] [] [] none .z .z))))))) q m (lV.eq_1 _ _ _) h))
