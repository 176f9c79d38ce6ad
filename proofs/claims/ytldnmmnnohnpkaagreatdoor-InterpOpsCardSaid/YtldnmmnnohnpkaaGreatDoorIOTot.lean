/-
 Own helper theorems of no one function: that a model gives something, and what holds of it.
-/
import Derived.Test.YtldnmmnnohnpkaaGreatDoorIOS3
import Derived.Test.YtldnmmnnohnpkaaGreatDoorIOGMm
import Derived.ProofKit
namespace Go.Proofs.YtldnmmnnohnpkaaGreatDoor.Abs
set_option linter.unusedVariables false
open Go.RowKit
section
variable {α β:Type} {o:Option α} {Q P:α->Prop}
end
theorem zkq {n:Int} (h1:-9223372036854775808<=n) (h2:n<=9223372036854775807):IntKind.i64.wrap n=n:=by
 rw [IntKind.wrap_i64];omega
end Go.Proofs.YtldnmmnnohnpkaaGreatDoor.Abs
namespace Go.Proofs.YtldnmmnnohnpkaaGreatDoor.Abs
set_option linter.unusedVariables false
open Go.RowKit
theorem anchor13:zdU 5000=some true:=by kernel_rfl
theorem ops_in:(zaV.all fun s=>zce 5000 s == some true)=true:=by kernel_rfl
theorem ops_chk:((List.range 15).all fun j=>match idxL zaV (j:Int),idxL zbZ (j:Int) with | some k,some o=>zet 5000 k == some o | _,_=>false)=true:=by kernel_rfl
theorem ops_sign:zbq.map (·.zmX)=zaV:=by kernel_rfl
theorem op_none {a:Str} (h:a ∉ zaV):∀(c j:Nat),j<=15->15<j+c->zfr a c (j:Int)=some (.inl ()):=by
 intro c
 induction c with
 | zero=>intro j h1 h2;omega
 | succ c ih=>
   intro j h1 h2;unfold zfr
   by_cases hj:j<15
   ·rw [if_pos (decide_eq_true (by omega))];have hlen:zbq.length=15:=by kernel_rfl
    have hx:idxL zbq (j:Int)=some zbq[j]:=by
     unfold idxL;rw [if_pos (by omega),Int.toNat_natCast];exact List.getElem?_eq_getElem (by omega)
    rw [hx,Option.bind_some];have hne:zbq[j].zmX ≠ a:=fun e=>h (by rw [←ops_sign,←e];exact List.mem_map_of_mem (List.getElem_mem _));rw [if_neg (by simpa using hne),zkq (by omega) (by omega)];exact ih (j+1) (by omega) (by omega)
   ·rw [if_neg (by rw [decide_eq_true_eq];omega)]
theorem ops_l1 {a:Str} (h:a ∉ zaV):∀(c j:Nat),j<=15->15<j+c->zbI 5000 a c 0 (j:Int)=some (.inl 0):=by
 intro c
 induction c with
 | zero=>intro j h1 h2;omega
 | succ c ih=>
   intro j h1 h2;unfold zbI
   by_cases hj:j<15
   ·rw [if_pos (decide_eq_true (by omega))];have hc:=List.all_eq_true.1 ops_chk j (List.mem_range.2 hj);have hk:zaV.length=15:=by kernel_rfl
    have hx:idxL zaV (j:Int)=some zaV[j]:=by
     unfold idxL;rw [if_pos (by omega),Int.toNat_natCast];exact List.getElem?_eq_getElem (by omega)
    rw [hx] at hc ⊢;cases ho:idxL zbZ (j:Int) with
    | none=>rw [ho] at hc;cases hc
    | some o=>
      rw [ho] at hc;have hc':zet 5000 zaV[j]=some o:=by simpa using hc
      have hne:zaV[j] ≠ a:=fun e=>h (by rw [←e];exact List.getElem_mem _);rw [Option.bind_some,if_neg (by simpa using hne),hc',Option.bind_some,Option.bind_some,if_neg (by simp),Option.bind_some,zkq (by omega) (by omega)];exact ih (j+1) (by omega) (by omega)
   ·rw [if_neg (by rw [decide_eq_true_eq];omega)]
theorem ops_true (a:Str):zce 5000 a=some true:=by
 by_cases h:a ∈ zaV
 ·simpa using List.all_eq_true.1 ops_in a h
 ·unfold zce;rw [anchor13,Option.bind_some,if_neg (by decide)];have h1:=ops_l1 h 5000 0 (by omega) (by omega);have h2:=op_none h 5000 0 (by omega) (by omega);rw [show ((0:Nat):Int)=0 from rfl] at h1 h2;rw [h1,Option.bind_some];show Option.bind (zet 5000 a) _=_;unfold zet;rw [h2];rfl
theorem zmD:∃n,∀a:Str,zce n a=some true:=⟨_,ops_true⟩
end Go.Proofs.YtldnmmnnohnpkaaGreatDoor.Abs
