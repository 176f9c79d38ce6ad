/-
 CheckPublic's plain law.
-/
import Derived.Test.YtldnmmnnohnpkaaGreatDoorPcRw12
namespace Go.Proofs.YtldnmmnnohnpkaaGreatDoor.Abs
open Go.RowKit
set_option linter.unusedVariables false
section
variable {vs : List zan} {sc : List Int}
theorem pub_l1 {f : zae -> Option Bool} {x : zae} (hf : ∀ y ∈ x.zal, f y = some true) (hl : x.zal.length <= 1000000) : ∀ (k v : Nat), x.zal.length < v + k -> v <= x.zal.length -> zb7 f x k (v : Int) = some (.inl ()) := by
 intro k
 induction k with
 | zero => intro v h1 h2; omega
 | succ k ih =>
   intro v h1 h2; unfold zb7
   by_cases hv : v < x.zal.length
   ·rw [if_pos (decide_eq_true (by omega)), zi4 (List.getElem?_eq_getElem hv), Option.bind_some, hf _ (List.getElem_mem hv), Option.bind_some, if_neg (by decide), zc7 (by omega) (by omega), show ((v : Int) + 1) = ((v + 1 : Nat) : Int) by omega]; exact ih (v + 1) (by omega) (by omega)
   ·rw [if_neg (by rw [decide_eq_true_eq]; omega)]
theorem zoF {f : zae -> List zan -> Option Bool} {x : zae} {us : List zan} (hf : ∀ y ∈ x.zal, f y us = some true) (hl : x.zal.length <= 1000000) : ∀ (k v : Nat), x.zal.length < v + k -> v <= x.zal.length -> zck f x us k (v : Int) = some (.inl ()) := by
 intro k
 induction k with
 | zero => intro v h1 h2; omega
 | succ k ih =>
   intro v h1 h2; unfold zck
   by_cases hv : v < x.zal.length
   ·rw [if_pos (decide_eq_true (by omega)), zi4 (List.getElem?_eq_getElem hv), Option.bind_some, hf _ (List.getElem_mem hv), Option.bind_some, if_neg (by decide), zc7 (by omega) (by omega), show ((v : Int) + 1) = ((v + 1 : Nat) : Int) by omega]; exact ih (v + 1) (by omega) (by omega)
   ·rw [if_neg (by rw [decide_eq_true_eq]; omega)]
theorem mulT (a b : Int) (h : ziG a b = 1) : a = 1 /\ b = 1 := by
 unfold ziG at h
 repeat' split at h
 all_goals omega
theorem ziP {x : zae} (h : TX vs sc x) : ∀ n, xz x < n -> xz x <= 1000000 -> za3 n x = some true := by
 have key : ∀ {x : zae} {n : Nat}, xz x < n + 1 -> xz x <= 1000000 -> (∀ y ∈ x.zal, za3 n y = some true) -> zb7 (za3 n) x n 0 = some (.inl ()) := fun {x n} h1 h2 h3 => by
  have := zgb x; have := zld x.zal; exact pub_l1 h3 (by omega) n 0 (by omega) (by omega)
 induction h with
 | num =>
   intro n h1 h2; obtain ⟨n, rfl⟩ : ∃ m, n = m + 1 := ⟨n - 1, by omega⟩; show zaM (za3 n) n _ = _; unfold zaM; rw [key h1 h2 zdJ]; rfl
 | var _ _ _ =>
   intro n h1 h2; obtain ⟨n, rfl⟩ : ∃ m, n = m + 1 := ⟨n - 1, by omega⟩; show zaM (za3 n) n _ = _; unfold zaM; rw [key h1 h2 zdJ]; rfl
 | @index v u i a _ _ _ hi h5 _ ih =>
   intro n h1 h2; obtain ⟨n, rfl⟩ : ∃ m, n = m + 1 := ⟨n - 1, by omega⟩; have hz := zgb ⟨[105, 110, 100, 101, 120], 2, 0, v, [i], a⟩; simp only [xzL] at hz; show zaM (za3 n) n _ = _; unfold zaM; rw [key h1 h2 (all1 (ih n (by omega) (by omega))), Option.bind_some, Sum.elim_inl]; show some (i.za7 == (1 : Int)) = some true; rw [h5]; rfl
 | @un o x a ho hx ih =>
   intro n h1 h2; obtain ⟨n, rfl⟩ : ∃ m, n = m + 1 := ⟨n - 1, by omega⟩; have hz := zgb ⟨o, x.za7, 0, -1, [x], a⟩; simp only [xzL] at hz; show zaM (za3 n) n _ = _; unfold zaM; rw [key h1 h2 (all1 (ih n (by omega) (by omega))), Option.bind_some, Sum.elim_inl]
   rcases ho with rfl | rfl <;> rfl
 | @bin o x y t a hx hy hb ih1 ih2 =>
   intro n h1 h2; obtain ⟨n, rfl⟩ : ∃ m, n = m + 1 := ⟨n - 1, by omega⟩; have hz := zgb ⟨o, t, 0, -1, [x, y], a⟩; simp only [xzL] at hz; show zaM (za3 n) n _ = _; unfold zaM; rw [key h1 h2 (all2 (ih1 n (by omega) (by omega)) (ih2 n (by omega) (by omega))), Option.bind_some, Sum.elim_inl]
   rcases hb with ⟨ho, h3, h4, _⟩ | ⟨ho, h3, _⟩ | ⟨ho, _⟩ | ⟨ho, _⟩ | ⟨ho, _⟩
   ·rcases ho with rfl | rfl
    all_goals
     show ((if (x.za7 == (1 : Int)) = true then some (y.za7 == (1 : Int)) else some false).bind fun y => some y) = some true; rw [h3, h4]; rfl
   ·rcases ho with rfl | rfl | rfl
    all_goals
     show some (y.za7 == (1 : Int)) = some true; rw [h3]; rfl
   ·subst ho; rfl
   ·rcases ho with rfl | rfl <;> rfl
   ·rcases ho with rfl | rfl | rfl | rfl | rfl <;> rfl
 | @sel c x y a _ _ _ _ _ ih1 ih2 ih3 =>
   intro n h1 h2; obtain ⟨n, rfl⟩ : ∃ m, n = m + 1 := ⟨n - 1, by omega⟩; have hz := zgb ⟨[115, 101, 108, 101, 99, 116], secT (ziG x.za7 y.za7), 0, -1, [c, x, y], a⟩; simp only [xzL] at hz; show zaM (za3 n) n _ = _; unfold zaM; rw [key h1 h2 (all3 (ih1 n (by omega) (by omega)) (ih2 n (by omega) (by omega)) (ih3 n (by omega) (by omega))), Option.bind_some, Sum.elim_inl]; rfl
 | @long x a _ _ ih =>
   intro n h1 h2; obtain ⟨n, rfl⟩ : ∃ m, n = m + 1 := ⟨n - 1, by omega⟩; have hz := zgb ⟨[108, 111, 110, 103], 3, 0, -1, [x], a⟩; simp only [xzL] at hz; show zaM (za3 n) n _ = _; unfold zaM; rw [key h1 h2 (all1 (ih n (by omega) (by omega))), Option.bind_some, Sum.elim_inl]; rfl
 | @wide x y a _ _ _ _ ih1 ih2 =>
   intro n h1 h2; obtain ⟨n, rfl⟩ : ∃ m, n = m + 1 := ⟨n - 1, by omega⟩; have hz := zgb ⟨[119, 105, 100, 101], 3, 0, -1, [x, y], a⟩; simp only [xzL] at hz; show zaM (za3 n) n _ = _; unfold zaM; rw [key h1 h2 (all2 (ih1 n (by omega) (by omega)) (ih2 n (by omega) (by omega))), Option.bind_some, Sum.elim_inl]; rfl
 | @half o x a ho _ _ ih =>
   intro n h1 h2; obtain ⟨n, rfl⟩ : ∃ m, n = m + 1 := ⟨n - 1, by omega⟩; have hz := zgb ⟨o, 2, 0, -1, [x], a⟩; simp only [xzL] at hz; show zaM (za3 n) n _ = _; unfold zaM; rw [key h1 h2 (all1 (ih n (by omega) (by omega))), Option.bind_some, Sum.elim_inl]
   rcases ho with rfl | rfl <;> rfl
theorem pub_targ {p : zan} {x : zae} (h : TArg vs sc p x) {n : Nat} (h1 : xz x < n) (h2 : xz x <= 1000000) : za3 n x = some true := by
 cases h with
 | arr _ _ _ _ _ =>
   obtain ⟨n, rfl⟩ : ∃ m, n = m + 1 := ⟨n - 1, by omega⟩; show zaM (za3 n) n _ = _; unfold zaM; have := zgb ⟨[118, 97, 114], 4, 0, ‹Int›, [], ‹Int›⟩; rw [show (0 : Int) = ((0 : Nat) : Int) from rfl, pub_l1 zdJ (by simp) n 0 (by rw [zgb] at h1; simp only [xzL, List.length_nil] at *; omega) (by simp)]; rfl
 | pub _ h _ => exact ziP h n h1 h2
 | val _ _ h _ => exact ziP h n h1 h2
theorem zkB {x : zae} (h : TX vs sc x) : ∀ n, xz x < n -> xz x <= 1000000 -> x.za7 = 1 -> zbp n x vs = some true := by
 have key : ∀ {x : zae} {n : Nat}, xz x < n + 1 -> xz x <= 1000000 -> x.za7 = 1 -> x.Op_ ≠ [118, 97, 114] -> x.Op_ ≠ [105, 110, 100, 101, 120] -> (∀ y ∈ x.zal, zbp n y vs = some true) -> zbp (n + 1) x vs = some true := fun {x n} h1 h2 h3 h4 h5 h6 => by
  have := zgb x; have := zld x.zal; show zcu (zbp n) n x vs = _; unfold zcu; have hl := zoF (us := vs) h6 (by omega) n 0 (by omega) (by omega); rw [show ((0 : Nat) : Int) = 0 from rfl] at hl; rw [if_neg (by simpa using h4), if_neg (by simpa using h5), Option.bind_some, h3, if_neg (by decide), hl]; rfl
 induction h with
 | num =>
   intro n h1 h2 h3; obtain ⟨n, rfl⟩ : ∃ m, n = m + 1 := ⟨n - 1, by omega⟩; exact key h1 h2 h3 (by simp only; decide) (by simp only; decide) zdJ
 | @var v u a hs hu hk =>
   intro n h1 h2 h3; obtain ⟨n, rfl⟩ : ∃ m, n = m + 1 := ⟨n - 1, by omega⟩; show zcu (zbp n) n _ vs = _; unfold zcu
   have hv : 0 <= v /\ v < vs.length := by
    unfold idxL at hu
    split at hu
    ·have := (List.getElem?_eq_some_iff.1 hu).1; omega
    ·cases hu
   simp only at h3; have hl := zoF (f := zbp n) (x := ⟨[118, 97, 114], u.zaY, 0, v, [], a⟩) (us := vs) zdJ (by simp) n 0 (by rw [zgb] at h1; simp only [xzL, List.length_nil] at *; omega) (by simp); rw [show ((0 : Nat) : Int) = 0 from rfl] at hl; show Option.bind (if (decide (v < (0 : Int))) = true then some true else if (decide ((vs.length : Int) <= v)) = true then some true else (idxL vs v).bind fun x6 => if (x6.zaY != (1 : Int)) = true then some true else some (u.zaY != (1 : Int))) _ = _; rw [if_neg (by rw [decide_eq_true_eq]; omega), if_neg (by rw [decide_eq_true_eq]; omega), hu, Option.bind_some, h3, if_neg (by decide), Option.bind_some, if_neg (by decide)]; rw [h3] at hl; rw [hl]; rfl
 | index _ _ _ _ _ _ _ => intro n h1 h2 h3; exact absurd h3 (by simp)
 | @un o x a ho hx ih =>
   intro n h1 h2 h3; obtain ⟨n, rfl⟩ : ∃ m, n = m + 1 := ⟨n - 1, by omega⟩; have hz := zgb ⟨o, x.za7, 0, -1, [x], a⟩; simp only [xzL] at hz; exact key h1 h2 h3 (by rcases ho with rfl | rfl <;> simp only <;> decide) (by rcases ho with rfl | rfl <;> simp only <;> decide) (all1 (ih n (by omega) (by omega) h3))
 | @bin o x y t a hx hy hb ih1 ih2 =>
   intro n h1 h2 h3; obtain ⟨n, rfl⟩ : ∃ m, n = m + 1 := ⟨n - 1, by omega⟩; have hz := zgb ⟨o, t, 0, -1, [x, y], a⟩; simp only [xzL] at hz; simp only at h3
   have hxy : x.za7 = 1 /\ y.za7 = 1 := by
    rcases hb with ⟨_, h5, h6, _⟩ | ⟨_, h5, _, h6⟩ | ⟨_, h5, _⟩ | ⟨_, _, h5⟩ | ⟨_, h5, _⟩
    ·exact ⟨h5, h6⟩
    ·exact ⟨h6 ▸ h3, h5⟩
    ·exact mulT _ _ (h5 ▸ h3)
    ·split at h5
     ·omega
     ·exact mulT _ _ (h5 ▸ h3)
    ·exact mulT _ _ (h5 ▸ h3)
   have ho : o ≠ [118, 97, 114] /\ o ≠ [105, 110, 100, 101, 120] := by
    rcases hb with ⟨ho, _⟩ | ⟨ho, _⟩ | ⟨ho, _⟩ | ⟨ho, _⟩ | ⟨ho, _⟩
    ·rcases ho with rfl | rfl <;> decide
    ·rcases ho with rfl | rfl | rfl <;> decide
    ·subst ho; decide
    ·rcases ho with rfl | rfl <;> decide
    ·rcases ho with rfl | rfl | rfl | rfl | rfl <;> decide
   exact key h1 h2 h3 ho.1 ho.2 (all2 (ih1 n (by omega) (by omega) hxy.1) (ih2 n (by omega) (by omega) hxy.2))
 | @sel c x y a _ _ _ _ _ ih1 ih2 ih3 => intro n h1 h2 h3; simp only [secT] at h3; split at h3 <;> omega
 | long _ _ _ => intro n h1 h2 h3; exact absurd h3 (by simp)
 | wide _ _ _ _ _ _ => intro n h1 h2 h3; exact absurd h3 (by simp)
 | half _ _ _ _ => intro n h1 h2 h3; exact absurd h3 (by simp)
def SafeL (n : Nat) (us : List zan) (s : zaf) : Prop := (∀ x ∈ s.zal, za3 n x = some true) /\ ((s.Op_ = [108, 101, 116] ∨ s.Op_ = [105, 102] ∨ s.Op_ = [102, 111, 114]) -> ∀ x ∈ s.zal, zbp n x us = some true) /\ (s.Op_ = [112, 117, 116] -> ∀ x, s.zal[0]? = some x -> zbp n x us = some true)
theorem safe_l2 {n : Nat} {us : List zan} {s : zaf} (h : SafeL n us s) (hl : s.zal.length <= 1000000) : ∀ (k v : Nat), s.zal.length < v + k -> v <= s.zal.length -> zbK n s us k (v : Int) = some (.inl ()) := by
 obtain ⟨g1, g2, g3⟩ := h; intro k
 induction k with
 | zero => intro v h1 h2; omega
 | succ k ih =>
   intro v h1 h2; unfold zbK
   by_cases hv : v < s.zal.length
   ·have hm := List.getElem_mem hv; have e := zi4 (List.getElem?_eq_getElem hv); rw [if_pos (decide_eq_true (by omega)), e, Option.bind_some]
    have hnext : zbK n s us k (IntKind.i64.wrap ((v : Int) + 1)) = some (.inl ()) := by
     rw [zc7 (by omega) (by omega), show ((v : Int) + 1) = ((v + 1 : Nat) : Int) by omega]; exact ih (v + 1) (by omega) (by omega)
    have hend : ∀ b : Bool, (b = true -> zbp n s.zal[v] us = some true) -> ((some b).bind fun y29 => Option.bind (Option.bind (za3 n s.zal[v]) fun x38 => if (!x38) = true then some true else if y29 = true then (zbp n s.zal[v] us).bind fun x42 => some (!x42) else some false) fun y37 => if y37 = true then some (Sum.inr false) else zbK n s us k (IntKind.i64.wrap ((v : Int) + 1))) = some (Sum.inl () : Unit ⊕ Bool) := fun b hb => by
     rw [Option.bind_some, g1 _ hm, Option.bind_some, if_neg (by decide)]; cases b
     ·rw [if_neg (by decide), Option.bind_some, if_neg (by decide)]; exact hnext
     ·rw [if_pos rfl, hb rfl, Option.bind_some, Option.bind_some, if_neg (by decide)]; exact hnext
    by_cases o1 : s.Op_ = [108, 101, 116]
    ·rw [if_pos (decide_eq_true o1)]; exact hend true fun _ => g2 (.inl o1) _ hm
    rw [if_neg (by simpa using o1)]
    by_cases o2 : s.Op_ = [105, 102]
    ·rw [if_pos (decide_eq_true o2)]; exact hend true fun _ => g2 (.inr (.inl o2)) _ hm
    rw [if_neg (by simpa using o2)]
    by_cases o3 : s.Op_ = [102, 111, 114]
    ·rw [if_pos (decide_eq_true o3)]; exact hend true fun _ => g2 (.inr (.inr o3)) _ hm
    rw [if_neg (by simpa using o3)]
    by_cases o4 : s.Op_ = [112, 117, 116]
    ·rw [if_pos (decide_eq_true o4)]; refine hend _ fun hb => g3 o4 _ ?_; have : v = 0 := by have := eq_of_beq hb; omega
     subst this; exact List.getElem?_eq_getElem hv
    ·rw [if_neg (by simpa using o4)]; exact hend false fun h => Bool.noConfusion h
   ·rw [if_neg (by rw [decide_eq_true_eq]; omega)]
theorem safe_l1 {f : List zaf -> List zan -> Option Bool} {n : Nat} {us : List zan} {l : List zaf} (hf : ∀ s ∈ l, f s.zb1 us = some true /\ f s.zeW us = some true) (hs : ∀ s ∈ l, SafeL n us s) (hn : tzL l < n) (hb : tzL l <= 1000000) : ∀ (k v : Nat), l.length < v + k -> v <= l.length -> zcj f n l us k (v : Int) = some (.inl ()) := by
 intro k
 induction k with
 | zero => intro v h1 h2; omega
 | succ k ih =>
   intro v h1 h2; have hll := zlg l; unfold zcj
   by_cases hv : v < l.length
   ·have hm := List.getElem_mem hv; have e := zi4 (List.getElem?_eq_getElem hv); have hz := zko hm; have hz2 := zh0 l[v]; have hz3 := zld (l[v]).zal; have h3 := safe_l2 (hs _ hm) (by omega) n 0 (by omega) (by omega); rw [show ((0 : Nat) : Int) = 0 from rfl] at h3; rw [if_pos (decide_eq_true (by omega)), e, Option.bind_some, h3, Option.bind_some, Sum.elim_inl, (hf _ hm).1, Option.bind_some, if_neg (by decide), (hf _ hm).2, Option.bind_some, Option.bind_some, if_neg (by decide), zc7 (by omega) (by omega), show ((v : Int) + 1) = ((v + 1 : Nat) : Int) by omega]; exact ih (v + 1) (by omega) (by omega)
   ·rw [if_neg (by rw [decide_eq_true_eq]; omega)]
variable {sg : SigT} {res : Int} {l : Bool} {n n' : Nat} {sc' : List Int} {ss : List zaf}
inductive StP (vs : List zan) : zaf -> Prop
 | mk {s} : (∀ n, tz s < n -> tz s <= 1000000 -> SafeL n vs s) -> (s.Op_ = [115, 101, 116] -> ∃ u, idxL vs s.Var_ = some u /\ (u.zaY = 2 ∨ u.zaY = 3)) -> (∀ t ∈ s.zb1, StP vs t) -> (∀ t ∈ s.zeW, StP vs t) -> StP vs s
theorem zkj {s : zaf} {x : zae} (h : x ∈ s.zal) : xz x < tz s := by
 have := zn2 h; rw [zh0]; omega
theorem zjJ {ps : List zan} {xs : List zae} (h : zkl vs sc ps xs) {v f a : Int} : ∀ n, tz ⟨[99, 97, 108, 108], v, f, xs, [], [], a⟩ < n -> tz ⟨[99, 97, 108, 108], v, f, xs, [], [], a⟩ <= 1000000 -> SafeL n vs ⟨[99, 97, 108, 108], v, f, xs, [], [], a⟩ := fun n h1 h2 => by
 refine ⟨fun x hx => ?_, fun ho => ?_, fun ho => absurd ho (by simp only; decide)⟩
 ·obtain ⟨p, _, hp⟩ := h.each hx; have := zkj hx; exact pub_targ hp (by omega) (by omega)
 ·rcases ho with ho | ho | ho <;> exact absurd ho (by simp only; decide)
theorem TB.stP (h : TB sg vs res l n sc ss n' sc') : ∀ s ∈ ss, StP vs s := by
 induction h with
 | nil => exact zdJ
 | let_ h1 h2 _ _ _ ih =>
   refine zer (.mk (fun n a b => ⟨fun x hx => ?_, fun _ x hx => ?_, fun ho => absurd ho (by simp only; decide)⟩) (fun ho => absurd ho (by simp only; decide)) zdJ zdJ) ih
   ·have := zkj hx; obtain rfl := List.mem_singleton.1 hx; exact ziP h1 _ (by omega) (by omega)
   ·have := zkj hx; obtain rfl := List.mem_singleton.1 hx; exact zkB h1 _ (by omega) (by omega) h2
 | var_ h1 _ _ _ ih =>
   refine zer (.mk (fun n a b => ⟨fun x hx => ?_, fun ho => ?_, fun ho => absurd ho (by simp only; decide)⟩) (fun ho => absurd ho (by simp only; decide)) zdJ zdJ) ih
   ·have := zkj hx; obtain rfl := List.mem_singleton.1 hx; exact ziP h1 _ (by omega) (by omega)
   ·rcases ho with ho | ho | ho <;> exact absurd ho (by simp only; decide)
 | arr _ _ _ ih => exact zer (.mk (fun n a b => ⟨zdJ, fun _ => zdJ, fun ho => absurd ho (by simp only; decide)⟩) (fun ho => absurd ho (by simp only; decide)) zdJ zdJ) ih
 | callv _ h2 _ _ _ _ ih => exact zer (.mk (zjJ h2) (fun ho => absurd ho (by simp only; decide)) zdJ zdJ) ih
 | set _ h2 h3 h4 _ _ ih =>
   refine zer (.mk (fun n a b => ⟨fun x hx => ?_, fun ho => ?_, fun ho => absurd ho (by simp only; decide)⟩) (fun ho => ⟨_, h2, h3⟩) zdJ zdJ) ih
   ·have := zkj hx; obtain rfl := List.mem_singleton.1 hx; exact ziP h4 _ (by omega) (by omega)
   ·rcases ho with ho | ho | ho <;> exact absurd ho (by simp only; decide)
 | calls _ _ _ _ h5 _ _ ih => exact zer (.mk (zjJ h5) (fun ho => absurd ho (by simp only; decide)) zdJ zdJ) ih
 | put _ _ _ h4 h5 _ h7 _ _ ih =>
   refine zer (.mk (fun n a b => ⟨fun x hx => ?_, fun ho => ?_, fun _ x hx => ?_⟩) (fun ho => absurd ho (by simp only; decide)) zdJ zdJ) ih
   ·have := zkj hx
    rcases List.mem_cons.1 hx with rfl | hx
    ·exact ziP h4 _ (by omega) (by omega)
    ·obtain rfl := List.mem_singleton.1 hx; exact ziP h7 _ (by omega) (by omega)
   ·rcases ho with ho | ho | ho <;> exact absurd ho (by simp only; decide)
   ·have := zkj (List.mem_of_getElem? hx); cases hx; exact zkB h4 _ (by omega) (by omega) h5
 | do_ _ h2 _ ih => exact zer (.mk (zjJ h2) (fun ho => absurd ho (by simp only; decide)) zdJ zdJ) ih
 | if_ h1 h2 _ _ _ ih1 ih2 ih3 =>
   refine zer (.mk (fun n a b => ⟨fun x hx => ?_, fun _ x hx => ?_, fun ho => absurd ho (by simp only; decide)⟩) (fun ho => absurd ho (by simp only; decide)) ih1 ih2) ih3
   ·have := zkj hx; obtain rfl := List.mem_singleton.1 hx; exact ziP h1 _ (by omega) (by omega)
   ·have := zkj hx; obtain rfl := List.mem_singleton.1 hx; exact zkB h1 _ (by omega) (by omega) h2
 | for_ h1 h2 h3 h4 _ _ _ _ ih1 ih2 =>
   refine zer (.mk (fun n a b => ⟨fun x hx => ?_, fun _ x hx => ?_, fun ho => absurd ho (by simp only; decide)⟩) (fun ho => absurd ho (by simp only; decide)) ih1 zdJ) ih2
   ·have := zkj hx
    rcases List.mem_cons.1 hx with rfl | hx
    ·exact ziP h1 _ (by omega) (by omega)
    ·obtain rfl := List.mem_singleton.1 hx; exact ziP h3 _ (by omega) (by omega)
   ·have := zkj hx
    rcases List.mem_cons.1 hx with rfl | hx
    ·exact zkB h1 _ (by omega) (by omega) h2
    ·obtain rfl := List.mem_singleton.1 hx; exact zkB h3 _ (by omega) (by omega) h4
 | ret h1 _ _ =>
   refine all1 (.mk (fun n a b => ⟨fun x hx => ?_, fun ho => ?_, fun ho => absurd ho (by simp only; decide)⟩) (fun ho => absurd ho (by simp only; decide)) zdJ zdJ)
   ·have := zkj hx; obtain rfl := List.mem_singleton.1 hx; exact ziP h1 _ (by omega) (by omega)
   ·rcases ho with ho | ho | ho <;> exact absurd ho (by simp only; decide)
 | retc _ _ h3 => exact all1 (.mk (zjJ h3) (fun ho => absurd ho (by simp only; decide)) zdJ zdJ)
theorem safe_eq : ∀ (n : Nat) (l : List zaf), tzL l + 1 < n -> tzL l <= 1000000 -> (∀ s ∈ l, StP vs s) -> zdj n l vs = some true := by
 intro n
 induction n with
 | zero => intro l h; omega
 | succ n ih =>
   intro l h hb hs; show zdq (zdj n) n l vs = _; unfold zdq; have hl := zlg l
   have h3 := safe_l1 (f := zdj n) (n := n) (us := vs) (l := l) (fun s hm => by
    have h1 := zko hm; have h2 := zh0 s; obtain ⟨_, _, h4, h5⟩ := hs s hm; exact ⟨ih _ (by omega) (by omega) h4, ih _ (by omega) (by omega) h5⟩) (fun s hm => by
    have h1 := zko hm; obtain ⟨h4, _, _, _⟩ := hs s hm; exact h4 n (by omega) (by omega)) (by omega) hb n 0 (by omega) (by omega)
   rw [show ((0 : Nat) : Int) = 0 from rfl] at h3; rw [h3]; rfl
def zpn (vs : List zan) (r : zar) : Prop := r.Tag_ = [115, 101, 116] -> ∃ u, idxL vs r.A_ = some u /\ (u.zaY = 2 ∨ u.zaY = 3)
mutual
theorem rowsX_ok : ∀ (x : zae), ∀ r ∈ zmt x, zpn vs r
 | ⟨o, t, n, v, l, a⟩ => by
   rw [zmt]; refine zer (fun h => ?_) (zkv l); exact absurd h (by simp [rowX])
theorem zkv : ∀ (l : List zae), ∀ r ∈ zgA l, zpn vs r
 | [] => by rw [zgA]; exact zdJ
 | x :: l => by
   rw [zgA]; intro r hr
   rcases List.mem_append.1 hr with hr | hr
   ·exact rowsX_ok x r hr
   ·exact zkv l r hr
end
mutual
theorem rowsS_ok : ∀ (s : zaf), StP vs s -> ∀ r ∈ zmu s, zpn vs r
 | ⟨o, v, f, l, b, e, a⟩, .mk _ h2 h3 h4 => by
   rw [zmu]; refine zer h2 fun r hr => ?_
   rcases List.mem_append.1 hr with hr | hr
   ·exact zkv l r hr
   rcases List.mem_append.1 hr with hr | hr
   ·exact zjL b h3 r hr
   ·exact zjL e h4 r hr
theorem zjL : ∀ (l : List zaf), (∀ s ∈ l, StP vs s) -> ∀ r ∈ zgg l, zpn vs r
 | [], _ => by rw [zgg]; exact zdJ
 | s :: l, h => by
   rw [zgg]; intro r hr
   rcases List.mem_append.1 hr with hr | hr
   ·exact rowsS_ok s (h s List.mem_cons_self) r hr
   ·exact zjL l (fun t ht => h t (List.mem_cons_of_mem _ ht)) r hr
end
theorem zoy {rs : List zar} {f : zau} (h : ∀ r ∈ rs, zpn f.za9 r) (hl : rs.length <= 1000000) : ∀ (k v : Nat), rs.length < v + k -> v <= rs.length -> zbl rs f k (v : Int) = some (.inl ()) := by
 intro k
 induction k with
 | zero => intro v h1 h2; omega
 | succ k ih =>
   intro v h1 h2; unfold zbl
   by_cases hv : v < rs.length
   ·have hm := List.getElem_mem hv; rw [if_pos (decide_eq_true (by omega)), zi4 (List.getElem?_eq_getElem hv), Option.bind_some]
    have hnext : zbl rs f k (IntKind.i64.wrap ((v : Int) + 1)) = some (.inl ()) := by
     rw [zc7 (by omega) (by omega), show ((v : Int) + 1) = ((v + 1 : Nat) : Int) by omega]; exact ih (v + 1) (by omega) (by omega)
    by_cases ht : (rs[v]).Tag_ = [115, 101, 116]
    ·obtain ⟨u, hu, hk⟩ := h _ hm ht
     have hvv : 0 <= (rs[v]).A_ /\ (rs[v]).A_ < f.za9.length := by
      unfold idxL at hu
      split at hu
      ·have := (List.getElem?_eq_some_iff.1 hu).1; omega
      ·cases hu
     rw [if_pos (decide_eq_true ht), if_neg (by rw [decide_eq_true_eq]; omega), if_neg (by rw [decide_eq_true_eq]; omega), hu, Option.bind_some, if_neg (by rw [beq_iff_eq]; omega), Option.bind_some, if_neg (by rw [beq_iff_eq]; omega)]; exact hnext
    ·rw [if_neg (by simpa using ht), Option.bind_some, if_neg (by decide)]; exact hnext
   ·rw [if_neg (by rw [decide_eq_true_eq]; omega)]
theorem zoz {c : zad} {rk : Int -> Nat} (hp : PO c rk) {m : Nat} (hm : 100000 <= m) {e a : Int} : ∀ (k v : Nat), c.p_.zay.length < v + k -> v <= c.p_.zay.length -> zbC m (c.p_, e, a) k (v : Int) = some (.inl ()) := by
 intro k
 induction k with
 | zero => intro v h1 h2; omega
 | succ k ih =>
   intro v h1 h2; have h64 := hp.n64; unfold zbC
   by_cases hv : v < c.p_.zay.length
   ·have hfm := List.getElem_mem hv; have hg := List.getElem?_eq_getElem hv; obtain ⟨sc', hb⟩ := (hp.tf v _ hg).body; have hz := hp.sz _ hfm; have hlen := zgL (c.p_.zay[v]).zb1; have h3 := zoy (f := c.p_.zay[v]) (zjL _ hb.stP) (by omega) m 0 (by omega) (by omega); rw [show ((0 : Nat) : Int) = 0 from rfl] at h3; rw [if_pos (decide_eq_true (by simp only; omega))]; simp only; rw [zi4 hg, Option.bind_some, safe_eq m _ (by omega) (by omega) hb.stP, Option.bind_some, if_neg (by decide), znl m _ (by omega) (by omega) hb.stB, Option.bind_some, h3, Option.bind_some, Sum.elim_inl, zc7 (by omega) (by omega), show ((v : Int) + 1) = ((v + 1 : Nat) : Int) by omega]; exact ih (v + 1) (by omega) (by omega)
   ·rw [if_neg (by rw [decide_eq_true_eq]; simp only; omega)]
theorem anchor12 : zej 100000 = some true := by kernel_rfl
theorem zmz (s : Str) : zcz 100000 s = some true := by
 unfold zcz; rw [anchor12, Option.bind_some, if_neg (by decide)]
 by_cases hs : (3000 : Int) < s.length
 ·rw [if_pos (decide_eq_true hs)]
 rw [if_neg (by simpa using hs)]; obtain ⟨r, e, hr⟩ := zpp (s := s) (n := 100000) (by omega) (by omega); rw [e, Option.bind_some]
 by_cases he : r.2.1 = 0
 ·obtain ⟨c, rk, hc, hp⟩ := hr he; obtain ⟨p, e2, a⟩ := r; simp only at hc he; subst hc; rw [if_neg (by simp [he])]; have h64 := hp.n64; have h3 := zoz hp (m := 100000) (e := e2) (a := a) (Nat.le_refl _) 100000 0 (by omega) (by omega); rw [show ((0 : Nat) : Int) = 0 from rfl] at h3; rw [h3]; rfl
 ·rw [if_pos (by simpa using he)]
theorem zoA : ∃ n, ∀ s : Str, zcz n s = some true := ⟨100000, zmz⟩
end
end Go.Proofs.YtldnmmnnohnpkaaGreatDoor.Abs
