/-
 The rows of expressions and statements, as the statements of layer 12 list them.
-/
import Derived.Test.YtldnmmnnohnpkaaGreatDoorPcGLm
import Derived.Test.YtldnmmnnohnpkaaGreatDoorPcTyp
namespace Go.Proofs.YtldnmmnnohnpkaaGreatDoor.Abs
open Go.RowKit
set_option linter.unusedVariables false
inductive OpB : zae -> Prop
 | mk {x} : x.Op_.length <= 16 -> (∀ y ∈ x.zal, OpB y) -> OpB x
inductive StB : zaf -> Prop
 | mk {s} : (∀ x ∈ s.zal, OpB x) -> (∀ t ∈ s.zb1, StB t) -> (∀ t ∈ s.zeW, StB t) -> StB s
theorem OpB.nil {o : Str} {t k v a : Int} (h : o.length <= 16) : OpB ⟨o, t, k, v, [], a⟩ := .mk h fun y hy => nomatch hy
theorem all1 {α : Type} {P : α -> Prop} {x : α} (h : P x) : ∀ y ∈ [x], P y := fun y hy => by obtain rfl := List.mem_singleton.1 hy; exact h
theorem all2 {α : Type} {P : α -> Prop} {x y : α} (h : P x) (k : P y) : ∀ z ∈ [x, y], P z := fun z hz => by
 rcases List.mem_cons.1 hz with rfl | hz
 ·exact h
 ·exact all1 k z hz
theorem all3 {α : Type} {P : α -> Prop} {x y z : α} (h : P x) (k : P y) (l : P z) : ∀ u ∈ [x, y, z], P u := fun u hu => by
 rcases List.mem_cons.1 hu with rfl | hu
 ·exact h
 ·exact all2 k l u hu
theorem BinT.len {o : Str} {x y : zae} {t : Int} (h : BinT o x y t) : o.length <= 16 := by
 rcases h with ⟨h, _⟩ | ⟨h, _⟩ | ⟨h, _⟩ | ⟨h, _⟩ | ⟨h, _⟩
 ·rcases h with rfl | rfl <;> decide
 ·rcases h with rfl | rfl | rfl <;> decide
 ·subst h; decide
 ·rcases h with rfl | rfl <;> decide
 ·rcases h with rfl | rfl | rfl | rfl | rfl <;> decide
section
variable {vs : List zan} {sc : List Int}
theorem TX.opB {x : zae} (h : TX vs sc x) : OpB x := by
 induction h with
 | num => exact .nil (by decide)
 | var _ _ _ => exact .nil (by decide)
 | index _ _ _ _ _ _ ih => exact .mk (by simp only; decide) (all1 ih)
 | un h _ ih => exact .mk (by simp only; rcases h with rfl | rfl <;> decide) (all1 ih)
 | bin _ _ h ih1 ih2 => exact .mk h.len (all2 ih1 ih2)
 | sel _ _ _ _ _ ih1 ih2 ih3 => exact .mk (by simp only; decide) (all3 ih1 ih2 ih3)
 | long _ _ ih => exact .mk (by simp only; decide) (all1 ih)
 | wide _ _ _ _ ih1 ih2 => exact .mk (by simp only; decide) (all2 ih1 ih2)
 | half h _ _ ih => exact .mk (by simp only; rcases h with rfl | rfl <;> decide) (all1 ih)
theorem TArg.opB {p : zan} {x : zae} (h : TArg vs sc p x) : OpB x := by
 cases h with
 | arr _ _ _ _ _ => exact .nil (by decide)
 | pub _ h _ => exact h.opB
 | val _ _ h _ => exact h.opB
theorem zkl.each {ps : List zan} {l : List zae} (h : zkl vs sc ps l) {x : zae} (hx : x ∈ l) : ∃ p ∈ ps, TArg vs sc p x := by
 obtain ⟨i, hi⟩ := List.getElem?_of_mem hx; have hlt := (List.getElem?_eq_some_iff.1 hi).1; exact ⟨ps[i]'(by rw [← h.1]; exact hlt), List.getElem_mem _, h.2 i _ x (List.getElem?_eq_getElem _) hi⟩
variable {sg : SigT} {res : Int} {l : Bool} {n n' : Nat} {sc' : List Int} {ss : List zaf}
theorem zer {α : Type} {P : α -> Prop} {x : α} {l : List α} (h : P x) (k : ∀ y ∈ l, P y) : ∀ y ∈ x :: l, P y := fun y hy => by
 rcases List.mem_cons.1 hy with rfl | hy
 ·exact h
 ·exact k y hy
theorem zdJ {α : Type} {P : α -> Prop} : ∀ y ∈ ([] : List α), P y := fun y hy => nomatch hy
theorem TB.stB (h : TB sg vs res l n sc ss n' sc') : ∀ s ∈ ss, StB s := by
 induction h with
 | nil => exact zdJ
 | let_ h1 _ _ _ _ ih => exact zer (.mk (all1 h1.opB) zdJ zdJ) ih
 | var_ h1 _ _ _ ih => exact zer (.mk (all1 h1.opB) zdJ zdJ) ih
 | arr _ _ _ ih => exact zer (.mk zdJ zdJ zdJ) ih
 | callv _ h2 _ _ _ _ ih => exact zer (.mk (fun x hx => by obtain ⟨p, _, h⟩ := h2.each hx; exact h.opB) zdJ zdJ) ih
 | set _ _ _ h4 _ _ ih => exact zer (.mk (all1 h4.opB) zdJ zdJ) ih
 | calls _ _ _ _ h5 _ _ ih => exact zer (.mk (fun x hx => by obtain ⟨p, _, h⟩ := h5.each hx; exact h.opB) zdJ zdJ) ih
 | put _ _ _ h4 _ _ h7 _ _ ih => exact zer (.mk (all2 h4.opB h7.opB) zdJ zdJ) ih
 | do_ _ h2 _ ih => exact zer (.mk (fun x hx => by obtain ⟨p, _, h⟩ := h2.each hx; exact h.opB) zdJ zdJ) ih
 | if_ h1 _ _ _ _ ih1 ih2 ih3 => exact zer (.mk (all1 h1.opB) ih1 ih2) ih3
 | for_ h1 _ h3 _ _ _ _ _ ih1 ih2 => exact zer (.mk (all2 h1.opB h3.opB) ih1 zdJ) ih2
 | ret h1 _ _ => exact all1 (.mk (all1 h1.opB) zdJ zdJ)
 | retc _ _ h3 => exact all1 (.mk (fun x hx => by obtain ⟨p, _, h⟩ := h3.each hx; exact h.opB) zdJ zdJ)
end
def rowX (x : zae) : zar := ⟨[61] ++ x.Op_, [], x.za7, IntKind.i64.wrap x.N_, x.Var_, x.zal.length, 0, x.At_⟩
def rowS (s : zaf) : zar := ⟨s.Op_, [], s.Var_, s.zfe, s.zal.length, s.zb1.length, s.zeW.length, s.At_⟩
mutual
def zmt : zae -> List zar
 | ⟨o, t, n, v, l, a⟩ => rowX ⟨o, t, n, v, l, a⟩ :: zgA l
def zgA : List zae -> List zar
 | [] => []
 | x :: l => zmt x ++ zgA l
end
mutual
def zmu : zaf -> List zar
 | ⟨o, v, f, l, b, e, a⟩ => rowS ⟨o, v, f, l, b, e, a⟩ :: (zgA l ++ (zgg b ++ zgg e))
def zgg : List zaf -> List zar
 | [] => []
 | x :: l => zmu x ++ zgg l
end
theorem rowsX_eq (x : zae) : zmt x = rowX x :: zgA x.zal := by cases x; rw [zmt]
theorem rowsS_eq (s : zaf) : zmu s = rowS s :: (zgA s.zal ++ (zgg s.zb1 ++ zgg s.zeW)) := by cases s; rw [zmu]
mutual
theorem zon : ∀ x : zae, (zmt x).length = xz x
 | ⟨o, t, n, v, l, a⟩ => by rw [zmt, xz, List.length_cons, zhA l, Nat.add_comm]
theorem zhA : ∀ l : List zae, (zgA l).length = xzL l
 | [] => by rw [zgA, xzL]; rfl
 | x :: l => by rw [zgA, xzL, List.length_append, zon x, zhA l]
end
mutual
theorem zoo : ∀ x : zaf, (zmu x).length = tz x
 | ⟨o, v, f, l, b, e, a⟩ => by rw [zmu, tz, List.length_cons, List.length_append, List.length_append, zhA l, zgL b, zgL e]; omega
theorem zgL : ∀ l : List zaf, (zgg l).length = tzL l
 | [] => by rw [zgg, tzL]; rfl
 | x :: l => by rw [zgg, tzL, List.length_append, zoo x, zgL l]
end
theorem znM {f : List zae -> Option (List zar)} {l : List zae} (hf : ∀ x ∈ l, f x.zal = some (zgA x.zal)) (ho : ∀ x ∈ l, OpB x) :
  ∀ (k v : Nat) (acc : List zar), l.length < v + k -> v <= l.length -> acc.length + xzL (l.drop v) <= 1073741824 -> l.length <= 1073741824 -> zcd f l k acc (v : Int) = some (acc ++ zgA (l.drop v)) := by
 intro k
 induction k with
 | zero => intro v acc h1 h2; omega
 | succ k ih =>
   intro v acc h1 h2 h3 h4; unfold zcd
   by_cases hv : v < l.length
   ·have hd : l.drop v = l[v] :: l.drop (v + 1) := List.drop_eq_getElem_cons hv; have e : idxL l (v : Int) = some l[v] := zi4 (List.getElem?_eq_getElem hv); have hm : l[v] ∈ l := List.getElem_mem hv; have hlen := zhA (l[v]).zal; have hz := zgb l[v]; rw [hd, xzL] at h3; obtain ⟨hop, _⟩ := ho _ hm; rw [if_pos (decide_eq_true (by omega)), e, Option.bind_some, zgV (by simp only [List.length_cons, List.length_nil]; omega), zgV (by simp only [List.length_cons, List.length_nil]; omega), hf _ hm, Option.bind_some, zgV (by simp only [List.length_append, List.length_singleton]; omega)]; rw [zc7 (n := (v : Int) + 1) (by omega) (by omega), show ((v : Int) + 1) = ((v + 1 : Nat) : Int) by omega, ih (v + 1) _ (by omega) (by omega) (by simp only [List.length_append, List.length_singleton]; omega) h4, hd, zgA, rowsX_eq]; simp only [List.append_assoc, List.cons_append, List.nil_append, rowX]
   ·rw [if_neg (by rw [decide_eq_true_eq]; omega), List.drop_eq_nil_of_le (by omega), zgA, List.append_nil]
theorem znN : ∀ (n : Nat) (l : List zae), xzL l + 1 < n -> xzL l <= 1000000 -> (∀ x ∈ l, OpB x) -> zcT n l = some (zgA l) := by
 intro n
 induction n with
 | zero => intro l h; omega
 | succ n ih =>
   intro l h hb ho; show zda (zcT n) n l = _; unfold zda; have hl := zld l
   have := znM (f := zcT n) (l := l) (fun x hx => by
    have h1 := zn2 hx; have h2 := zgb x; obtain ⟨_, h3⟩ := ho x hx; exact ih _ (by omega) (by omega) h3) ho n 0 [] (by omega) (by omega) (by simp only [List.length_nil, List.drop_zero]; omega) (by omega)
   rw [show ((0 : Nat) : Int) = 0 from rfl] at this; rw [this, Option.bind_some, List.nil_append, List.drop_zero]
theorem znk {f : List zaf -> Option (List zar)} {n : Nat} {l : List zaf} (hf : ∀ x ∈ l, f x.zb1 = some (zgg x.zb1) /\ f x.zeW = some (zgg x.zeW)) (ho : ∀ x ∈ l, StB x) (hn : tzL l < n) (hb : tzL l <= 1000000) :
  ∀ (k v : Nat) (acc : List zar), l.length < v + k -> v <= l.length -> acc.length + tzL (l.drop v) <= 1073741824 -> zcc f n l k acc (v : Int) = some (acc ++ zgg (l.drop v)) := by
 intro k
 induction k with
 | zero => intro v acc h1 h2; omega
 | succ k ih =>
   intro v acc h1 h2 h3; have hll := zlg l; unfold zcc
   by_cases hv : v < l.length
   ·have hd : l.drop v = l[v] :: l.drop (v + 1) := List.drop_eq_getElem_cons hv; have e : idxL l (v : Int) = some l[v] := zi4 (List.getElem?_eq_getElem hv); have hm : l[v] ∈ l := List.getElem_mem hv; have hmz := zko hm; have hlen := zhA (l[v]).zal; have hlen2 := zgL (l[v]).zb1; have hlen3 := zgL (l[v]).zeW; have hz := zh0 l[v]; rw [hd, tzL] at h3; obtain ⟨hop, _, _⟩ := ho _ hm; rw [if_pos (decide_eq_true (by omega)), e, Option.bind_some, zgV (by simp only [List.length_cons, List.length_nil]; omega), znN n _ (by omega) (by omega) hop, Option.bind_some, zgV (by simp only [List.length_append, List.length_singleton]; omega), (hf _ hm).1, Option.bind_some, zgV (by simp only [List.length_append, List.length_singleton]; omega), (hf _ hm).2, Option.bind_some, zgV (by simp only [List.length_append, List.length_singleton]; omega)]; rw [zc7 (n := (v : Int) + 1) (by omega) (by omega), show ((v : Int) + 1) = ((v + 1 : Nat) : Int) by omega, ih (v + 1) _ (by omega) (by omega) (by simp only [List.length_append, List.length_singleton]; omega), hd, zgg, rowsS_eq]; simp only [List.append_assoc, List.cons_append, List.nil_append, rowS]
   ·rw [if_neg (by rw [decide_eq_true_eq]; omega), List.drop_eq_nil_of_le (by omega), zgg, List.append_nil]
theorem znl : ∀ (n : Nat) (l : List zaf), tzL l + 1 < n -> tzL l <= 1000000 -> (∀ x ∈ l, StB x) -> zcS n l = some (zgg l) := by
 intro n
 induction n with
 | zero => intro l h; omega
 | succ n ih =>
   intro l h hb ho; show zc9 (zcS n) n l = _; unfold zc9; have hl := zlg l
   have := znk (f := zcS n) (n := n) (l := l) (fun x hx => by
    have h1 := zko hx; have h2 := zh0 x; obtain ⟨_, h3, h4⟩ := ho x hx; exact ⟨ih _ (by omega) (by omega) h3, ih _ (by omega) (by omega) h4⟩) ho (by omega) hb n 0 [] (by omega) (by omega) (by simp only [List.length_nil, List.drop_zero]; omega)
   rw [show ((0 : Nat) : Int) = 0 from rfl] at this; rw [this, Option.bind_some, List.nil_append, List.drop_zero]
end Go.Proofs.YtldnmmnnohnpkaaGreatDoor.Abs
