/-
 Own helper theorems of no one function: that a model gives something, and what holds of it.
-/
import Derived.Test.YtldnmmnnohnpkaaDoorNuS3
import Derived.Test.YtldnmmnnohnpkaaDoorNuGMm
import Derived.Lib.IndexLaws
import Derived.Lib.ItoaNum
namespace Go.Proofs.YtldnmmnnohnpkaaDoor.Abs
open Go.RowKit
def Tot {α : Type} (o : Option α) (Q : α -> Prop) : Prop := ∃ r, o = some r /\ Q r
section
variable {α β : Type} {o : Option α} {Q P : α -> Prop}
theorem Tot.some {r : α} (h : Q r) : Tot (some r) Q := ⟨r, rfl, h⟩
theorem Tot.mono (h : Tot o P) (k : ∀ x, P x -> Q x) : Tot o Q := by obtain ⟨r, e, hr⟩ := h; exact ⟨r, e, k r hr⟩
theorem Tot.bind {f : α -> Option β} {R : β -> Prop} (h : Tot o P) (k : ∀ x, P x -> Tot (f x) R) : Tot (o.bind f) R := by
 obtain ⟨r, e, hr⟩ := h; subst e; exact k r hr
theorem Tot.bind' {f : α -> Option β} {R : β -> Prop} (h : Tot o fun x => Tot (f x) R) : Tot (o.bind f) R := h.bind fun _ k => k
theorem Tot.need {c : Prop} [Decidable c] (hc : c) (h : Tot o Q) : Tot (need c o) Q := by rw [zdX hc]; exact h
theorem Tot.iteb {b : Bool} {x y : Option α} (h1 : b = true -> Tot x Q) (h2 : b = false -> Tot y Q) : Tot (if b = true then x else y) Q := by
 cases b
 ·exact h2 rfl
 ·exact h1 rfl
theorem Tot.elim {γ : Type} {s : β ⊕ γ} {f : β -> Option α} {g : γ -> Option α} (h1 : ∀ x, s = .inl x -> Tot (f x) Q) (h2 : ∀ x, s = .inr x -> Tot (g x) Q) : Tot (s.elim f g) Q := by
 cases s
 ·exact h1 _ rfl
 ·exact h2 _ rfl
theorem Tot.idx {l : List α} {i : Int} (h0 : 0 <= i) (h1 : i < l.length) (k : ∀ x, l[i.toNat]? = Option.some x -> Q x) : Tot (idxL l i) Q := by
 unfold idxL; rw [if_pos h0]; refine ⟨l[i.toNat]'(by omega), List.getElem?_eq_getElem (by omega), k _ (List.getElem?_eq_getElem (by omega))⟩
end
theorem zfC {n : Int} (h1 : -9223372036854775808 <= n) (h2 : n <= 9223372036854775807) : IntKind.i64.wrap n = n := by
 rw [IntKind.wrap_i64]; omega
theorem take_step' {α : Type} {l : List α} {j : Nat} {x : α} (h : l[j]? = some x) : l.take (j + 1) = l.take j ++ [x] := by
 rw [List.take_add_one, h]; rfl
theorem zj2 {α : Type} {p : α -> Bool} {s : List α} {v : Nat} {x : α} (h : ∀ y ∈ s.take v, p y = true) (hx : s[v]? = some x) (hp : p x = false) : s.takeWhile p = s.take v := by
 obtain ⟨hv, rfl⟩ := List.getElem?_eq_some_iff.1 hx; have h1 : (s.take v ++ s.drop v).takeWhile p = s.take v ++ (s.drop v).takeWhile p := List.takeWhile_append_of_pos h; rw [List.take_append_drop] at h1; rw [h1, List.drop_eq_getElem_cons hv, List.takeWhile_cons_of_neg (by simp [hp]), List.append_nil]
theorem find_at {α : Type} {p : α -> Bool} {s : List α} {v : Nat} {x : α} (h : ∀ y ∈ s.take v, p y = false) (hx : s[v]? = some x) (hp : p x = true) : s.find? p = some x := by
 obtain ⟨hv, rfl⟩ := List.getElem?_eq_some_iff.1 hx
 have h1 : (s.take v ++ s.drop v).find? p = (s.drop v).find? p := by
  rw [List.find?_append, List.find?_eq_none.2 (fun y hy => by simp [h y hy])]; rfl
 rw [List.take_append_drop] at h1; rw [h1, List.drop_eq_getElem_cons hv, List.find?_cons_of_pos (by simp [hp])]
theorem zi4 {α : Type} {p : α -> Bool} {s : List α} (h : ∀ y ∈ s, p y = true) : s.takeWhile p = s := by
 have := List.takeWhile_append_of_pos (l₂ := []) h; simpa using this
end Go.Proofs.YtldnmmnnohnpkaaDoor.Abs
namespace Go.Proofs.YtldnmmnnohnpkaaDoor.Abs
open Go.RowKit
set_option linter.unusedVariables false
set_option linter.unusedSimpArgs false
def zi1 (c : Int) : Bool := (decide (97 <= c) && decide (c <= 122)) || (c == 95)
def zhA (c : Int) : Bool := decide (48 <= c) && decide (c <= 57)
def isBl (c : Int) : Bool := c == 32 || (c == 9 || (c == 13 || c == 10))
def lod (b : UInt8) : Bool := zi1 b.toNat || zhA b.toNat
theorem zld (a : Int) : zhV a = some (isBl a) := by
 unfold zhV isBl; cases a == 32 <;> cases a == 9 <;> cases a == 13 <;> rfl
theorem zh0 (a : Int) : zfO a = some (zi1 a) := by
 unfold zfO zi1; cases decide (97 <= a) <;> cases decide (a <= 122) <;> simp
theorem zi3 (a : Int) : zgQ a = some (zhA a) := by
 unfold zgQ zhA; cases decide (48 <= a) <;> simp
theorem ziZ (a b : Str) : zbt a b = some (decide (a.take b.length = b)) := by
 unfold zbt
 by_cases h : (b.length : Int) <= a.length
 ·rw [if_pos (by simpa using h), zdX ⟨by omega, h⟩]; rfl
 ·rw [if_neg (by simpa using h), Option.bind_some, decide_eq_false]; intro e; have := congrArg List.length e; rw [List.length_take] at this; omega
theorem zev (a b : Str) : zdb a b = some (decide (a.take b.length = b)) := by
 unfold zdb; rw [ziZ]; rfl
theorem zfs (a : Str) (c : Int) : zda a c = some (Lib.indexByte a c.toNat.toUInt8) := rfl
theorem word_l1 (s : Str) : ∀ (c : Nat) (v : Nat), s.length < v + c -> v <= s.length -> (∀ y ∈ s.take v, lod y = true) -> s.length < 4611686018427387904 ->
  Tot (zeG s c v) (fun r => match r with | .inl _ => s.takeWhile lod = s | .inr t => t = s.takeWhile lod) := by
 intro c
 induction c with
 | zero => intro v h1 h2; omega
 | succ c ih =>
   intro v h1 h2 h3 hs; unfold zeG; refine Tot.iteb (fun h4 => ?_) (fun h4 => ?_)
   ·simp only [decide_eq_true_eq] at h4; refine (Tot.bind (P := fun y => ∃ x, s[v]? = some x /\ y = !lod x) ?_) ?_
    ·refine Tot.bind' (Tot.idx (by omega) h4 fun x hx => ?_); rw [Int.toNat_natCast] at hx; rw [zh0, Option.bind_some, zi3, Option.bind_some]; refine Tot.iteb (fun h5 => .some ⟨x, hx, ?_⟩) (fun h5 => .some ⟨x, hx, ?_⟩)
     ·simp only [Bool.not_eq_true'] at h5; simp [lod, h5]
     ·simp only [Bool.not_eq_false'] at h5; simp [lod, h5]
    ·rintro y ⟨x, hx, rfl⟩; refine Tot.iteb (fun h5 => ?_) (fun h5 => ?_)
     ·refine Tot.need ⟨by omega, by omega⟩ (.some ?_); simp only [Bool.not_eq_true'] at h5; rw [Int.toNat_natCast]; exact (zj2 h3 hx h5).symm
     ·simp only [Bool.not_eq_false'] at h5; rw [zfC (by omega) (by omega)]; refine ih (v + 1) (by omega) (by omega) ?_ hs; rw [take_step' hx]; intro y hy
      rcases List.mem_append.1 hy with hy | hy
      ·exact h3 y hy
      ·rw [List.mem_singleton.1 hy]; exact h5
   ·refine .some ?_; simp only [decide_eq_false_iff_not] at h4; rw [List.take_of_length_le (by omega)] at h3; exact zi4 h3
theorem zlJ {n : Nat} {s : Str} (hn : s.length < n) (hs : s.length < 4611686018427387904) : zh6 n s = some (s.takeWhile lod) := by
 unfold zh6; obtain ⟨r, e, hr⟩ := word_l1 s n 0 (by omega) (by omega) (by simp) hs; rw [show ((0 : Nat) : Int) = 0 from rfl] at e; rw [e, Option.bind_some]; cases r with
 | inl _ => rw [hr]; rfl
 | inr t => rw [hr]; rfl
theorem sign_l1 (s : Str) : ∀ (c : Nat) (v : Nat), 26 < v + c -> v <= 26 -> (∀ y ∈ zbh.take v, decide (s.take y.length = y) = false) ->
  Tot (zeH s c v) (fun r => match r with | .inl _ => zbh.find? (fun y => decide (s.take y.length = y)) = none | .inr t => zbh.find? (fun y => decide (s.take y.length = y)) = some t) := by
 intro c
 induction c with
 | zero => intro v h1 h2; omega
 | succ c ih =>
   intro v h1 h2 h3; unfold zeH; refine Tot.iteb (fun h4 => ?_) (fun h4 => ?_)
   ·simp only [decide_eq_true_eq] at h4; refine Tot.bind' (Tot.idx (by omega) (by have : zbh.length = 26 := rfl; omega) fun x hx => ?_); rw [Int.toNat_natCast] at hx; rw [zev, Option.bind_some]; refine Tot.iteb (fun h5 => .some ?_) (fun h5 => ?_)
    ·exact find_at h3 hx h5
    ·rw [zfC (by omega) (by omega)]; refine ih (v + 1) (by omega) (by omega) ?_; rw [take_step' hx]; intro y hy
     rcases List.mem_append.1 hy with hy | hy
     ·exact h3 y hy
     ·rw [List.mem_singleton.1 hy]; exact h5
   ·refine .some ?_; simp only [decide_eq_false_iff_not] at h4; rw [List.take_of_length_le (by have : zbh.length = 26 := rfl; omega)] at h3; exact List.find?_eq_none.2 fun y hy => by simpa using h3 y hy
def zii (s : Str) : Str := (zbh.find? (fun y => decide (s.take y.length = y))).getD []
theorem zlZ {n : Nat} {s : Str} (hn : 26 < n) : ziE n s = some (zii s) := by
 unfold ziE zii; obtain ⟨r, e, hr⟩ := sign_l1 s n 0 (by omega) (by omega) (by simp); rw [show ((0 : Nat) : Int) = 0 from rfl] at e; rw [e, Option.bind_some]; cases r with
 | inl _ => rw [hr]; rfl
 | inr t => rw [hr]; rfl
theorem zlk (s : Str) : zii s = [] ∨ 1 <= (zii s).length /\ (zii s).length <= s.length := by
 unfold zii; cases h : zbh.find? (fun y => decide (s.take y.length = y)) with
 | none => exact .inl rfl
 | some y =>
   have h1 := List.find?_some h; have h2 := List.mem_of_find?_eq_some h; simp only [decide_eq_true_eq] at h1; have h3 := congrArg List.length h1; rw [List.length_take] at h3; have h4 : (zbh.all fun y => decide (1 <= y.length)) = true := by decide
   have h5 := List.all_eq_true.1 h4 y h2; simp only [decide_eq_true_eq] at h5; exact .inr ⟨h5, by show y.length <= _; omega⟩
theorem skip_l1 (s : Str) (hs : s.length < 4611686018427387904) : ∀ (c : Nat) (v : Nat), s.length < v + c -> v <= s.length -> Tot (zdv s c v) (fun r => ∃ k : Nat, v <= k /\ k <= s.length /\ (r = .inl (k : Int) ∨ r = .inr (k : Int))) := by
 intro c
 induction c with
 | zero => intro v h1 h2; omega
 | succ c ih =>
   intro v h1 h2; unfold zdv; refine Tot.iteb (fun h4 => ?_) (fun h4 => .some ⟨v, by omega, h2, .inl rfl⟩); simp only [decide_eq_true_eq] at h4; refine Tot.bind' (Tot.idx (by omega) h4 fun x hx => ?_); rw [Int.toNat_natCast] at hx; rw [zld, Option.bind_some]; refine Tot.iteb (fun h5 => ?_) (fun h5 => ?_)
   ·rw [zfC (by omega) (by omega)]; exact (ih (v + 1) (by omega) (by omega)).mono fun r ⟨k, h6, h7, h8⟩ => ⟨k, by omega, h7, h8⟩
   ·refine Tot.need ⟨by omega, by omega⟩ ?_; rw [Int.toNat_natCast, zev, Option.bind_some]; refine Tot.iteb (fun h6 => ?_) (fun h6 => .some ⟨v, by omega, h2, .inr rfl⟩); simp only [decide_eq_true_eq] at h6; refine Tot.need ⟨by omega, by omega⟩ ?_; rw [zfs, Option.bind_some]; refine Tot.iteb (fun h7 => .some ⟨s.length, h2, by omega, .inr rfl⟩) (fun h7 => ?_); simp only [decide_eq_false_iff_not, Int.not_lt] at h7; obtain ⟨o, ho⟩ := Int.eq_ofNat_of_zero_le h7; rw [ho]; obtain ⟨h8, h9⟩ := Lib.indexByte_some ho; have h10 : o < (s.drop v).length := (List.getElem?_eq_some_iff.1 h8).1; rw [List.length_drop] at h10
    have h11 : o ≠ 0 := by
     rintro rfl; have h12 := congrArg (·[0]?) h6; simp only [List.getElem?_take_of_lt (show 0 < ([47, 47] : Str).length by decide)] at h12; rw [h8] at h12
     revert h12; decide
    rw [zfC (by omega) (by omega)]; exact (ih (v + o) (by omega) (by omega)).mono fun r ⟨k, h6, h7, h8⟩ => ⟨k, by omega, h7, h8⟩
theorem skip_tot {n : Nat} {s : Str} {v : Nat} (hs : s.length < 4611686018427387904) (hn : s.length < v + n) (hv : v <= s.length) : Tot (zfI n s v) fun r => ∃ k : Nat, v <= k /\ k <= s.length /\ r = k := by
 unfold zfI; refine (skip_l1 s hs n v hn hv).bind fun r ⟨k, h1, h2, h3⟩ => ?_
 rcases h3 with rfl | rfl <;> exact .some ⟨k, h1, h2, rfl⟩
theorem value_l1 (x : Str × Bool) (hs : x.1.length < 4611686018427387904) : ∀ (c : Nat) (t : Int) (v : Nat), x.1.length < v + c -> v <= x.1.length -> Tot (zep x c t v) fun _ => True := by
 intro c
 induction c with
 | zero => intro t v h1 h2; omega
 | succ c ih =>
   intro t v h1 h2; unfold zep; refine Tot.iteb (fun h4 => ?_) (fun h4 => .some trivial); simp only [decide_eq_true_eq] at h4; refine Tot.need (by decide) ?_; refine Tot.bind' (Tot.idx (by omega) h4 fun y hy => ?_); rw [zfs, Option.bind_some]; refine Tot.bind (P := fun _ => True) (Tot.iteb (fun _ => .some trivial) fun _ => .some trivial) fun y _ => ?_; refine Tot.iteb (fun _ => .some trivial) fun _ => ?_; rw [zfC (n := (v : Int) + 1) (by omega) (by omega)]; exact ih _ (v + 1) (by omega) (by omega)
theorem value_l2 (s : Str) (hs : s.length < 4611686018427387904) : ∀ (c : Nat) (t : Int) (v : Nat), s.length < v + c -> v <= s.length -> Tot (zdo s c t v) fun _ => True := by
 intro c
 induction c with
 | zero => intro t v h1 h2; omega
 | succ c ih =>
   intro t v h1 h2; unfold zdo; refine Tot.iteb (fun h4 => ?_) (fun h4 => .some trivial); simp only [decide_eq_true_eq] at h4; refine Tot.need (by decide) ?_; refine Tot.bind' (Tot.idx (by omega) h4 fun y hy => ?_); rw [zfs, Option.bind_some]; refine Tot.bind (P := fun _ => True) (Tot.iteb (fun _ => .some trivial) fun _ => .some trivial) fun y _ => ?_; refine Tot.iteb (fun _ => .some trivial) fun _ => ?_; rw [zfC (n := (v : Int) + 1) (by omega) (by omega)]; exact ih _ (v + 1) (by omega) (by omega)
theorem zi0 (a b : Str) : zdC a b = some (if a.take b.length = b then (a.drop b.length, true) else (a, false)) := by
 unfold zdC zb1; rw [ziZ, Option.bind_some]
 by_cases h : a.take b.length = b
 ·rw [decide_eq_true h, if_neg (by decide), if_pos h, zdX]
  ·rfl
  ·have := congrArg List.length h; rw [List.length_take] at this; omega
 ·rw [decide_eq_false h, if_pos (by decide), if_neg h]; rfl
theorem zlL {n : Nat} {s : Str} (hs : s.length < 4611686018427387904) (hn : s.length < n) : Tot (zfX n s) fun _ => True := by
 unfold zfX; rw [zi0, Option.bind_some]
 have hl : ∀ x : Str × Bool, x = (if s.take ([48, 120] : Str).length = ([48, 120] : Str) then (s.drop ([48, 120] : Str).length, true) else (s, false)) -> x.1.length <= s.length := by
  rintro x rfl
  split
  ·rw [List.length_drop]; omega
  ·exact Nat.le_refl _
 generalize (if s.take ([48, 120] : Str).length = ([48, 120] : Str) then (s.drop ([48, 120] : Str).length, true) else (s, false)) = x at hl
 have hx := hl x rfl; refine Tot.iteb (fun _ => ?_) fun _ => ?_
 ·exact (value_l1 x (by omega) n 0 0 (by omega) (by omega)).bind fun r _ => Tot.elim (fun _ _ => .some trivial) fun _ _ => .some trivial
 ·exact (value_l2 s (by omega) n 0 0 (by omega) (by omega)).bind fun r _ => Tot.elim (fun _ _ => .some trivial) fun _ _ => .some trivial
theorem zk5 {n : Nat} {s : Str} {v : Nat} (hs : s.length < 4611686018427387904) (hn : s.length < n) (hn2 : 26 < n) (hv : v < s.length) :
  Tot (zfj n s v) fun r => r.2 = 0 -> (r.1.zba = 1 ∨ r.1.zba = 2 ∨ r.1.zba = 3) /\ r.1.At_ = v /\ 1 <= r.1.za0.length /\ v + r.1.za0.length <= s.length := by
 unfold zfj; refine Tot.need ⟨by omega, by omega⟩ ?_; rw [Int.toNat_natCast, zlJ (by rw [List.length_drop]; omega) (by rw [List.length_drop]; omega), Option.bind_some]; refine Tot.bind' (Tot.idx (by omega) (by omega) fun x hx => ?_); rw [Int.toNat_natCast] at hx
 have hd : s.drop v = x :: s.drop (v + 1) := by
  obtain ⟨h1, rfl⟩ := List.getElem?_eq_some_iff.1 hx; exact List.drop_eq_getElem_cons h1
 have hle : ((s.drop v).takeWhile lod).length <= s.length - v := by
  have := (List.takeWhile_prefix (l := s.drop v) lod).length_le
  rwa [List.length_drop] at this
 have hpos : lod x = true -> 1 <= ((s.drop v).takeWhile lod).length := by
  intro h; rw [hd, List.takeWhile_cons_of_pos h, List.length_cons]; omega
 rw [zh0, Option.bind_some]; refine Tot.iteb (fun h1 => Tot.iteb (fun _ => .some fun h => by cases h) fun _ => .some fun _ => ⟨.inl rfl, rfl, hpos (by simp [lod, h1]), by simp only; omega⟩) fun h1 => ?_; rw [zi3, Option.bind_some]; refine Tot.iteb (fun h2 => ?_) fun h2 => ?_
 ·refine (zlL (by omega) (by omega)).bind fun y _ => Tot.iteb (fun _ => .some fun h => by cases h) fun _ => .some fun _ => ⟨.inr (.inl rfl), rfl, hpos (by simp [lod, h2]), by simp only; omega⟩
 ·refine Tot.need ⟨by omega, by omega⟩ ?_; rw [zlZ hn2, Option.bind_some]; refine Tot.iteb (fun _ => .some fun h => by cases h) fun h3 => .some fun _ => ⟨.inr (.inr rfl), rfl, ?_⟩; have h4 := zlk (s.drop v); simp only [decide_eq_false_iff_not] at h3
  rcases h4 with h4 | h4
  ·exact absurd h4 h3
  ·rw [List.length_drop] at h4; exact ⟨h4.1, by simp only; omega⟩
def TokOk (l : List za2) : Prop := ∀ t ∈ l, (t.zba = 1 ∨ t.zba = 2 ∨ t.zba = 3) /\ t.za0 ≠ []
theorem zmF {n : Nat} {s : Str} (hs : s.length <= 65536) (hn : s.length < n) (hn2 : 26 < n) : ∀ (c : Nat) (l : List za2) (v : Nat), s.length < v + c -> v <= s.length -> TokOk l -> l.length <= v ->
  Tot (zcJ n s c l v) fun r => match r with | .inl l => TokOk l /\ l.length <= s.length | .inr x => x.2.1 ≠ 0 := by
 intro c
 induction c with
 | zero => intro l v h1 h2; omega
 | succ c ih =>
   intro l v h1 h2 h3 h4; unfold zcJ; refine Tot.iteb (fun h5 => ?_) fun h5 => .some ⟨h3, by omega⟩; simp only [decide_eq_true_eq] at h5; refine (zk5 (by omega) hn hn2 (by omega)).bind fun x hx => ?_; refine Tot.iteb (fun h6 => .some (by simpa using h6)) fun h6 => ?_; obtain ⟨k1, k2, k3, k4⟩ := hx (by simpa using h6); refine Tot.need (by simp only [List.length_singleton]; omega) ?_; rw [zfC (by omega) (by omega)]; refine (skip_tot (v := v + x.1.za0.length) (by omega) (by omega) k4).bind fun r ⟨k, h7, h8, h9⟩ => ?_; subst h9; refine ih _ k (by omega) h8 ?_ (by simp only [List.length_append, List.length_singleton]; omega); intro t ht
   rcases List.mem_append.1 ht with ht | ht
   ·exact h3 t ht
   ·rw [List.mem_singleton.1 ht]; exact ⟨k1, fun e => by rw [e] at k3; simp at k3⟩
end Go.Proofs.YtldnmmnnohnpkaaDoor.Abs
namespace Go.Proofs.YtldnmmnnohnpkaaDoor.Abs
open Go.RowKit
set_option linter.unusedVariables false
abbrev Tok := za2
abbrev Nd := zaa
mutual
def sz : zaa -> Int
 | ⟨_, _, _, _, l⟩ => 1 + szL l
def szL : List zaa -> Int
 | [] => 0
 | x :: l => sz x + szL l
end
mutual
theorem sz_pos : ∀ x : zaa, 1 <= sz x
 | ⟨_, _, _, _, l⟩ => by rw [sz]; have := szL_ge l; omega
theorem szL_ge : ∀ l : List zaa, (l.length : Int) <= szL l
 | [] => by rw [szL]; exact Int.le_refl _
 | x :: l => by rw [szL, List.length_cons]; have := szL_ge l; have := sz_pos x; omega
end
def signsL : List Str := [[124], [94], [38], [61, 61], [60], [60, 60], [62, 62], [60, 60, 60], [43], [45], [42], [47], [37]]
inductive WE : Nd -> Prop
 | num {a n} : WE ⟨14, a, [], n, []⟩
 | ref {a s} : WE ⟨15, a, s, 0, []⟩
 | index {a s x} : WE x -> WE ⟨16, a, s, 0, [x]⟩
 | un {a s x} : (s = [126] ∨ s = [45]) -> WE x -> WE ⟨18, a, s, 0, [x]⟩
 | bin {a s x y} : s ∈ signsL -> WE x -> WE y -> WE ⟨19, a, s, 0, [x, y]⟩
 | call {a s xs} : (∀ x ∈ xs, WE x) -> WE ⟨17, a, s, 0, xs⟩
inductive WS : Nd -> Prop
 | bind {k a s x} : (k = 5 ∨ k = 6) -> WE x -> WS ⟨k, a, s, 0, [x]⟩
 | arr {a s n} : WS ⟨7, a, s, n, []⟩
 | ret {a x} : WE x -> WS ⟨13, a, [], 0, [x]⟩
 | choice {a c b ys} : WE c -> (∀ y ∈ ys, WS y) -> WS ⟨11, a, [], 0, [c, ⟨4, b, [], 0, ys⟩]⟩
 | choice2 {a c b ys b2 zs} : WE c -> (∀ y ∈ ys, WS y) -> (∀ z ∈ zs, WS z) -> WS ⟨11, a, [], 0, [c, ⟨4, b, [], 0, ys⟩, ⟨4, b2, [], 0, zs⟩]⟩
 | loop {a s x y b ys} : WE x -> WE y -> (∀ y ∈ ys, WS y) -> WS ⟨12, a, s, 0, [x, y, ⟨4, b, [], 0, ys⟩]⟩
 | call {a s xs} : (∀ x ∈ xs, WE x) -> WS ⟨10, a, s, 0, xs⟩
 | put {a s i x} : WE i -> WE x -> WS ⟨9, a, s, 0, [i, x]⟩
 | set {a s x} : WE x -> WS ⟨8, a, s, 0, [x]⟩
inductive WP : Nd -> Prop
 | word {a s k} : (k = 1 ∨ k = 2 ∨ k = 3) -> WP ⟨3, a, s, k, []⟩
 | arr {a s b n} : WP ⟨3, a, s, 4, [⟨14, b, [], n, []⟩]⟩
inductive WF : Nd -> Prop
 | fn {a s r ps b ys} : (∀ p ∈ ps, WP p) -> (∀ y ∈ ys, WS y) -> WF ⟨2, a, s, r, ps ++ [⟨4, b, [], 0, ys⟩]⟩
end Go.Proofs.YtldnmmnnohnpkaaDoor.Abs
namespace Go.Proofs.YtldnmmnnohnpkaaDoor.Abs
open Go.RowKit
set_option linter.unusedVariables false
set_option linter.unusedSimpArgs false
structure PI (p : zab) : Prop where
 lo : 0 <= p.at_
 hi : p.at_ < p.l_.length
 big : p.l_.length <= 65537
 toks : ∃ l z, p.l_ = l ++ [z] /\ TokOk l /\ z.zba = 4
structure Gd (p p' : zab) : Prop where
 inv : PI p'
 l : p'.l_ = p.l_
 at' : p.at_ <= p'.at_
 err' : p.e_ ≠ 0 -> p'.e_ = p.e_ /\ p'.at_ = p.at_
structure GA (p p' : zab) : Prop extends Gd p p' where
 adv : p'.e_ = 0 -> p.at_ < p'.at_
section
variable {p : zab} {n : Nat}
end
end Go.Proofs.YtldnmmnnohnpkaaDoor.Abs
namespace Go.Proofs.YtldnmmnnohnpkaaDoor.Abs
open Go.RowKit
set_option linter.unusedVariables false
set_option linter.unusedSimpArgs false
section
variable {n : Nat} {p : zab}
end
section
variable {n : Nat} {p : zab}
end
end Go.Proofs.YtldnmmnnohnpkaaDoor.Abs
namespace Go.Proofs.YtldnmmnnohnpkaaDoor.Abs
open Go.RowKit
set_option linter.unusedVariables false
mutual
def xz : zae -> Nat
 | ⟨_, _, _, _, l, _⟩ => 1 + xzL l
def xzL : List zae -> Nat
 | [] => 0
 | x :: l => xz x + xzL l
end
mutual
def tz : zag -> Nat
 | ⟨_, _, _, l, b, e, _⟩ => 1 + xzL l + tzL b + tzL e
def tzL : List zag -> Nat
 | [] => 0
 | x :: l => tz x + tzL l
end
def zjC (n : Int) : Prop := 1 <= n /\ n <= 255 ∨ 255 < n /\ n <= 1024 /\ n % 4 = 0
def VarOk (v : zas) : Prop := 1 <= v.zba /\ v.zba <= 4 /\ (v.zba = 4 -> zjC v.zfZ)
def zkO (a b : Int) : Int := if a = b /\ 1 <= a /\ a <= 3 then a else if a = 1 /\ b = 2 ∨ a = 2 /\ b = 1 then 2 else 0
def secT (t : Int) : Int := if t = 1 then 2 else t
def ScT (t : Int) : Prop := t = 1 ∨ t = 2
def FitT (t k : Int) : Prop := t = k ∨ t = 1 /\ k = 2
def BinT (o : Str) (x y : zae) (t : Int) : Prop :=
 ((o = [47] ∨ o = [37]) /\ x.zbn = 1 /\ y.zbn = 1 /\ t = 1) ∨
 ((o = [60, 60] ∨ o = [62, 62] ∨ o = [60, 60, 60]) /\ y.zbn = 1 /\ (x.zbn = 3 -> y.Op_ = [110, 117, 109] /\ y.N_ <= 63) /\ t = x.zbn) ∨
 (o = [42] /\ t = zkO x.zbn y.zbn /\ t ≠ 3 /\ t ≠ 0) ∨
 ((o = [61, 61] ∨ o = [60]) /\ zkO x.zbn y.zbn ≠ 0 /\ t = if zkO x.zbn y.zbn = 3 then 2 else zkO x.zbn y.zbn) ∨
 ((o = [124] ∨ o = [94] ∨ o = [38] ∨ o = [43] ∨ o = [45]) /\ t = zkO x.zbn y.zbn /\ t ≠ 0)
inductive TX (vs : List zas) (sc : List Int) : zae -> Prop
 | num {n a} : TX vs sc ⟨[110, 117, 109], 1, n, -1, [], a⟩
 | var {v u a} : v ∈ sc -> idxL vs v = some u -> u.zba ≠ 4 -> TX vs sc ⟨[118, 97, 114], u.zba, 0, v, [], a⟩
 | index {v u i a} : v ∈ sc -> idxL vs v = some u -> u.zba = 4 -> TX vs sc i -> i.zbn = 1 -> (i.Op_ = [110, 117, 109] -> IntKind.i64.wrap i.N_ < u.zfZ) -> TX vs sc ⟨[105, 110, 100, 101, 120], 2, 0, v, [i], a⟩
 | un {o x a} : (o = [110, 111, 116] ∨ o = [110, 101, 103]) -> TX vs sc x -> TX vs sc ⟨o, x.zbn, 0, -1, [x], a⟩
 | bin {o x y t a} : TX vs sc x -> TX vs sc y -> BinT o x y t -> TX vs sc ⟨o, t, 0, -1, [x, y], a⟩
 | sel {c x y a} : TX vs sc c -> TX vs sc x -> TX vs sc y -> ScT c.zbn -> zkO x.zbn y.zbn ≠ 0 -> TX vs sc ⟨[115, 101, 108, 101, 99, 116], secT (zkO x.zbn y.zbn), 0, -1, [c, x, y], a⟩
 | long {x a} : TX vs sc x -> ScT x.zbn -> TX vs sc ⟨[108, 111, 110, 103], 3, 0, -1, [x], a⟩
 | wide {x y a} : TX vs sc x -> TX vs sc y -> ScT x.zbn -> ScT y.zbn -> TX vs sc ⟨[119, 105, 100, 101], 3, 0, -1, [x, y], a⟩
 | half {o x a} : (o = [108, 111] ∨ o = [104, 105]) -> TX vs sc x -> x.zbn = 3 -> TX vs sc ⟨o, 2, 0, -1, [x], a⟩
inductive TArg (vs : List zas) (sc : List Int) (p : zas) : zae -> Prop
 | arr {v u a} : p.zba = 4 -> v ∈ sc -> idxL vs v = some u -> u.zba = 4 -> u.zfZ = p.zfZ -> TArg vs sc p ⟨[118, 97, 114], 4, 0, v, [], a⟩
 | pub {x} : p.zba = 1 -> TX vs sc x -> x.zbn = 1 -> TArg vs sc p x
 | val {x} : p.zba ≠ 1 -> p.zba ≠ 4 -> TX vs sc x -> FitT x.zbn p.zba -> TArg vs sc p x
def TArgs (vs : List zas) (sc : List Int) (ps : List zas) (l : List zae) : Prop := l.length = ps.length /\ ∀ (i : Nat) p x, ps[i]? = some p -> l[i]? = some x -> TArg vs sc p x
abbrev SigT := Int -> Int -> List zas -> Prop
inductive TB (sg : SigT) (vs : List zas) (res : Int) : Bool -> Nat -> List Int -> List zag -> Nat -> List Int -> Prop
 | nil {l n sc} : TB sg vs res l n sc [] n sc
 | let_ {l n sc x u a ss n' sc'} : TX vs sc x -> x.zbn = 1 -> vs[n]? = some u -> u.zba = 1 -> TB sg vs res l (n + 1) (sc ++ [(n : Int)]) ss n' sc' -> TB sg vs res l n sc (⟨[108, 101, 116], n, 0, [x], [], [], a⟩ :: ss) n' sc'
 | var_ {l n sc x u a ss n' sc'} : TX vs sc x -> vs[n]? = some u -> u.zba = secT x.zbn -> TB sg vs res l (n + 1) (sc ++ [(n : Int)]) ss n' sc' -> TB sg vs res l n sc (⟨[118, 97, 114], n, 0, [x], [], [], a⟩ :: ss) n' sc'
 | arr {l n sc u a ss n' sc'} : vs[n]? = some u -> u.zba = 4 -> TB sg vs res l (n + 1) (sc ++ [(n : Int)]) ss n' sc' -> TB sg vs res l n sc (⟨[97, 114, 114], n, 0, [], [], [], a⟩ :: ss) n' sc'
 | callv {l n sc f r ps xs u a ss n' sc'} : sg f r ps -> TArgs vs sc ps xs -> r ≠ 0 -> vs[n]? = some u -> u.zba = r -> TB sg vs res l (n + 1) (sc ++ [(n : Int)]) ss n' sc' -> TB sg vs res l n sc (⟨[99, 97, 108, 108], n, f, xs, [], [], a⟩ :: ss) n' sc'
 | set {l n sc v u x a ss n' sc'} : v ∈ sc -> idxL vs v = some u -> (u.zba = 2 ∨ u.zba = 3) -> TX vs sc x -> FitT x.zbn u.zba -> TB sg vs res l n sc ss n' sc' -> TB sg vs res l n sc (⟨[115, 101, 116], v, 0, [x], [], [], a⟩ :: ss) n' sc'
 | calls {l n sc v u f r ps xs a ss n' sc'} : v ∈ sc -> idxL vs v = some u -> (u.zba = 2 ∨ u.zba = 3) -> sg f r ps -> TArgs vs sc ps xs -> r = u.zba -> TB sg vs res l n sc ss n' sc' -> TB sg vs res l n sc (⟨[99, 97, 108, 108], v, f, xs, [], [], a⟩ :: ss) n' sc'
 | put {l n sc v u i x a ss n' sc'} : v ∈ sc -> idxL vs v = some u -> u.zba = 4 -> TX vs sc i -> i.zbn = 1 -> (i.Op_ = [110, 117, 109] -> IntKind.i64.wrap i.N_ < u.zfZ) -> TX vs sc x -> FitT x.zbn 2 -> TB sg vs res l n sc ss n' sc' -> TB sg vs res l n sc (⟨[112, 117, 116], v, 0, [i, x], [], [], a⟩ :: ss) n' sc'
 | do_ {l n sc f r ps xs a ss n' sc'} : sg f r ps -> TArgs vs sc ps xs -> TB sg vs res l n sc ss n' sc' -> TB sg vs res l n sc (⟨[99, 97, 108, 108], -1, f, xs, [], [], a⟩ :: ss) n' sc'
 | if_ {l n sc c b e a n1 sc1 n2 sc2 ss n' sc'} : TX vs sc c -> c.zbn = 1 -> TB sg vs res false n sc b n1 sc1 -> TB sg vs res false n1 sc e n2 sc2 -> TB sg vs res l n2 sc ss n' sc' -> TB sg vs res l n sc (⟨[105, 102], -1, 0, [c], b, e, a⟩ :: ss) n' sc'
 | for_ {l n sc x y u b a n1 sc1 ss n' sc'} : TX vs sc x -> x.zbn = 1 -> TX vs sc y -> y.zbn = 1 -> vs[n]? = some u -> u.zba = 1 -> TB sg vs res false (n + 1) (sc ++ [(n : Int)]) b n1 sc1 -> TB sg vs res l n1 sc ss n' sc' -> TB sg vs res l n sc (⟨[102, 111, 114], n, 0, [x, y], b, [], a⟩ :: ss) n' sc'
 | ret {n sc x a} : TX vs sc x -> res ≠ 0 -> FitT x.zbn res -> TB sg vs res true n sc [⟨[114, 101, 116, 117, 114, 110], -1, 0, [x], [], [], a⟩] n sc
 | retc {n sc f ps xs a} : sg f res ps -> res ≠ 0 -> TArgs vs sc ps xs -> TB sg vs res true n sc [⟨[99, 97, 108, 108], -2, f, xs, [], [], a⟩] n sc
section
variable {vs vs' : List zas} {sc sc' : List Int}
variable {sg sg' : SigT} {res : Int} {l : Bool} {n n' : Nat} {ss : List zag}
end
end Go.Proofs.YtldnmmnnohnpkaaDoor.Abs
namespace Go.Proofs.YtldnmmnnohnpkaaDoor.Abs
open Go.RowKit
set_option linter.unusedVariables false
def ndW (w : zaf) (b : Bool) (k a : Int) : zaf := if b = true then w else if (w.e_ == (0 : Int)) = true then ⟨k, a⟩ else w
theorem nd_eq {c : zad} {w : zaf} {b : Bool} {k a : Int} : zak c w b k a = some (ndW w b k a) := by
 unfold zak zdA ndW; cases b
 ·simp only [Bool.not_false, if_true, Bool.false_eq_true, if_false]
  split <;> rfl
 ·simp
def vsF (c : zad) : List zas := ((c.p_.zaT[c.f_.toNat]?).map zaB.zbH).getD []
structure CI (N B : Nat) (c : zad) : Prop where
 nf : c.p_.zaT.length = N
 nN : N <= 16384
 f0 : 0 <= c.f_
 f1 : c.f_ < N
 a0 : 0 <= c.at_
 a1 : c.at_ < N
 sc : ∀ v ∈ c.zaG, 0 <= v /\ v < (vsF c).length
 sl : c.zaG.length <= (vsF c).length
 vl : ∀ f ∈ c.p_.zaT, f.zbH.length <= 250 /\ 0 <= f.zbk /\ f.zbk <= f.zbH.length
 nc : c.zbi.length = N
 cl : ∀ l ∈ c.zbi, l.length <= B /\ ∀ k ∈ l, 0 <= k /\ k < N
 ki : ∀ f ∈ c.p_.zaT, (∀ v ∈ f.zbH, VarOk v) /\ (f.zbN = 0 ∨ f.zbN = 2 ∨ f.zbN = 3)
section
variable {N B n : Nat} {c : zad} {w : zaf} {s : Str}
def sigF (f : zaB) : zaB := { f with zbH := [], zcY := [] }
structure Kp (c c' : zad) : Prop where
 f : c'.f_ = c.f_
 a : c'.at_ = c.at_
 s : c.zaG <+: c'.zaG
 v : vsF c <+: vsF c'
 o : ∀ i, i ≠ c.f_.toNat -> c'.p_.zaT[i]? = c.p_.zaT[i]?
 g : c'.p_.zaT.map sigF = c.p_.zaT.map sigF
 k : ∀ j : Nat, j ≠ c.at_.toNat -> c'.zbi[j]? = c.zbi[j]?
 l : ∀ l, idxL c.zbi c.at_ = some l -> ∃ l', idxL c'.zbi c.at_ = some l' /\ l <+: l'
end
end Go.Proofs.YtldnmmnnohnpkaaDoor.Abs
namespace Go.Proofs.YtldnmmnnohnpkaaDoor.Abs
open Go.RowKit
set_option linter.unusedVariables false
theorem zlW {a : Int} : Tot (zcX a) fun r => r = true -> zjC a := by
 unfold zcX zjC; refine Tot.bind (P := fun r => r = true -> zjC a) ?_ fun b h => .some h; unfold zjC; simp only [decide_eq_true_eq]
 have ht : ∀ {b : Bool}, 255 < a -> a <= 1024 -> b = (a.tmod 4 == 0) -> Tot (some b) fun r => r = true -> (1 <= a /\ a <= 255 ∨ 255 < a /\ a <= 1024 /\ a % 4 = 0) := fun h1 h2 h3 => .some fun h => .inr ⟨h1, h2, by
  rw [h3, beq_iff_eq, Int.tmod_eq_emod_of_nonneg (by omega)] at h; exact h⟩
 repeat' split
 all_goals first | exact .some fun h => Bool.noConfusion h | exact .some fun _ => .inl ⟨‹_›, ‹_›⟩ | exact ht (by omega) (by omega) rfl
section
variable {N B n : Nat} {c : zad} {w : zaf}
end
section
variable {N B n : Nat} {c : zad} {w : zaf}
end
end Go.Proofs.YtldnmmnnohnpkaaDoor.Abs
namespace Go.Proofs.YtldnmmnnohnpkaaDoor.Abs
open Go.RowKit
set_option linter.unusedVariables false
section
variable {N B n : Nat} {c : zad} {w : zaf}
def RetS (s : zag) : Prop := s.Op_ = [114, 101, 116, 117, 114, 110] ∨ s.Op_ = [99, 97, 108, 108] /\ s.Var_ = -2
end
end Go.Proofs.YtldnmmnnohnpkaaDoor.Abs
namespace Go.Proofs.YtldnmmnnohnpkaaDoor.Abs
open Go.RowKit
set_option linter.unusedVariables false
section
variable {N B n : Nat} {c : zad} {w : zaf}
end
section
variable {N B n : Nat} {c : zad} {w : zaf}
end
end Go.Proofs.YtldnmmnnohnpkaaDoor.Abs
namespace Go.Proofs.YtldnmmnnohnpkaaDoor.Abs
open Go.RowKit
set_option linter.unusedVariables false
section
variable {N B n : Nat} {c : zad} {w : zaf}
end
end Go.Proofs.YtldnmmnnohnpkaaDoor.Abs
namespace Go.Proofs.YtldnmmnnohnpkaaDoor.Abs
open Go.RowKit
set_option linter.unusedVariables false
structure CO (N B : Nat) (c : zad) : Prop where
 nf : c.p_.zaT.length = N
 nN : N <= 16384
 vl : ∀ f ∈ c.p_.zaT, f.zbH.length <= 250 /\ 0 <= f.zbk /\ f.zbk <= f.zbH.length
 nc : c.zbi.length = N
 cl : ∀ l ∈ c.zbi, l.length <= B /\ ∀ k ∈ l, 0 <= k /\ k < N
 ki : ∀ f ∈ c.p_.zaT, (∀ v ∈ f.zbH, VarOk v) /\ (f.zbN = 0 ∨ f.zbN = 2 ∨ f.zbN = 3)
def rangeI (k : Nat) : List Int := (List.range k).map Int.ofNat
def wordsV : List zas -> Int -> Int
 | [], n => n
 | v :: l, n => wordsV l (if v.zba = 3 then n + (n % 2 + 1) + 1 else n + 1)
section
variable {N B n : Nat} {c : zad} {w : zaf}
structure Hd (f f' : zaB) : Prop where
 n : f'.zfr = f.zfr
 x : f'.ze1 = f.ze1
 r : f'.zbN = f.zbN
 b : f'.zcY = f.zcY
 p : f'.zbk = f'.zbH.length
def sgAt (c : zad) (i : Nat) : SigT := fun k r ps => (∃ l, c.zbi[i]? = some l /\ k ∈ l) /\ ∃ f, idxL c.p_.zaT k = some f /\ r = f.zbN /\ ps = f.zbH.take f.zbk.toNat
structure TF (sg : SigT) (f : zaB) : Prop where
 body : ∃ sc', TB sg f.zbH f.zbN true f.zbk.toNat (rangeI f.zbk.toNat) f.zcY f.zbH.length sc'
 ret : f.zbN ≠ 0 -> ∃ s, f.zcY.getLast? = some s /\ RetS s
end
end Go.Proofs.YtldnmmnnohnpkaaDoor.Abs
namespace Go.Proofs.YtldnmmnnohnpkaaDoor.Abs
open Go.RowKit
set_option linter.unusedVariables false
def zlO (seen : List Int) : Nat := seen.countP (· == 0)
def Seen (seen : List Int) (k : Int) : Prop := ∃ v, idxL seen k = some v /\ v ≠ 0
def Shut (c : zad) (to : Int) (seen : List Int) (k : Int) : Prop := ∀ l, idxL c.zbi k = some l -> ∀ j ∈ l, j ≠ to /\ Seen seen j
structure Ra (c : zad) (to : Int) (B : Nat) (X : Int) (seen seen' : List Int) : Prop where
 le : zlO seen' <= zlO seen
 lo : ∀ v ∈ seen', 0 <= v /\ v + ((zlO seen' * B : Nat) : Int) <= X
 up : ∀ k, Seen seen k -> Seen seen' k
 sh : ∀ k, Seen seen' k -> Seen seen k ∨ Shut c to seen' k
section
variable {N B : Nat} {c : zad} {to : Int}
inductive Way (c : zad) : Int -> Int -> Prop
 | one {i k l} : idxL c.zbi i = some l -> k ∈ l -> Way c i k
 | more {i j k l} : Way c i j -> idxL c.zbi j = some l -> k ∈ l -> Way c i k
end
end Go.Proofs.YtldnmmnnohnpkaaDoor.Abs
namespace Go.Proofs.YtldnmmnnohnpkaaDoor.Abs
open Go.RowKit
set_option linter.unusedVariables false
structure PO (c : zad) (rk : Int -> Nat) : Prop where
 co : CO c.p_.zaT.length 1073741824 c
 n64 : c.p_.zaT.length <= 64
 ex : ∀ f ∈ c.p_.zaT, f.ze1 = true -> wordsV (f.zbH.take f.zbk.toNat) 0 <= 4
 tf : ∀ (j : Nat) f, c.p_.zaT[j]? = some f -> TF (sgAt c j) f
 sz : ∀ f ∈ c.p_.zaT, tzL f.zcY <= 3001
 rkN : ∀ i, rk i <= 64
 rk : ∀ i l, idxL c.zbi i = some l -> ∀ k ∈ l, rk k < rk i
section
variable {N B n : Nat} {c : zad} {w : zaf}
structure D0 (f : zaB) : Prop where
 v : f.zbH = []
 p : f.zbk = 0
 b : f.zcY = []
 r : f.zbN = 0 ∨ f.zbN = 2 ∨ f.zbN = 3
end
end Go.Proofs.YtldnmmnnohnpkaaDoor.Abs
namespace Go.Proofs.YtldnmmnnohnpkaaDoor.Abs
open Go.RowKit
set_option linter.unusedVariables false
set_option linter.unusedSimpArgs false
theorem ib_cases (l : Str) (c : UInt8) : Lib.indexByte l c = -1 ∨ ∃ o : Nat, Lib.indexByte l c = o /\ o < l.length := by
 induction l with
 | nil => exact .inl rfl
 | cons b l ih =>
   unfold Lib.indexByte
   by_cases hb : (b == c) = true
   ·rw [if_pos hb]; exact .inr ⟨0, rfl, by simp⟩
   ·rw [if_neg hb]
    rcases ih with ih | ⟨o, ih, ho⟩
    ·rw [ih]; exact .inl rfl
    ·rw [ih, if_neg (by simp only [beq_iff_eq]; omega)]; exact .inr ⟨o + 1, by omega, by rw [List.length_cons]; omega⟩
inductive Sk (s : Str) : Nat -> Nat -> Prop
 | out : Sk s s.length s.length
 | bl {v k x} : s[v]? = some x -> isBl x.toNat = true -> Sk s (v + 1) k -> Sk s v k
 | rem {v k x o} : s[v]? = some x -> isBl x.toNat = false -> (s.drop v).take 2 = [47, 47] -> Lib.indexByte (s.drop v) 10 = ((o : Nat) : Int) -> Sk s (v + o) k -> Sk s v k
 | remE {v x} : s[v]? = some x -> isBl x.toNat = false -> (s.drop v).take 2 = [47, 47] -> Lib.indexByte (s.drop v) 10 = -1 -> Sk s v s.length
 | tok {v x} : s[v]? = some x -> isBl x.toNat = false -> (s.drop v).take 2 ≠ [47, 47] -> Sk s v v
theorem rem_pos {s : Str} {v o : Nat} (h : (s.drop v).take 2 = [47, 47]) (ho : Lib.indexByte (s.drop v) 10 = (o : Int)) : 0 < o := by
 rcases Nat.eq_zero_or_pos o with h0 | h0
 ·subst h0; have h8 := (Lib.indexByte_some ho).1; have h12 := congrArg (·[0]?) h; simp only [List.getElem?_take_of_lt (show 0 < 2 by decide)] at h12; rw [h8] at h12
  revert h12; decide
 ·exact h0
theorem Sk_l1 (s : Str) (hs : s.length < 4611686018427387904) : ∀ (c : Nat) (v : Nat), s.length < v + c -> v <= s.length -> Tot (zdv s c v) (fun r => ∃ k : Nat, Sk s v k /\ v <= k /\ k <= s.length /\ (r = .inl (k : Int) ∨ r = .inr (k : Int))) := by
 intro c
 induction c with
 | zero => intro v h1 h2; omega
 | succ c ih =>
   intro v h1 h2; unfold zdv; refine Tot.iteb (fun h4 => ?_) (fun h4 => ?_)
   rotate_left
   ·simp only [decide_eq_false_iff_not] at h4; obtain rfl : v = s.length := by omega
    exact .some ⟨_, .out, Nat.le_refl _, Nat.le_refl _, .inl rfl⟩
   simp only [decide_eq_true_eq] at h4; refine Tot.bind' (Tot.idx (by omega) h4 fun x hx => ?_); rw [Int.toNat_natCast] at hx; rw [zld, Option.bind_some]; refine Tot.iteb (fun h5 => ?_) (fun h5 => ?_)
   ·rw [zfC (by omega) (by omega)]; exact (ih (v + 1) (by omega) (by omega)).mono fun r ⟨k, h5', h6, h7, h8⟩ => ⟨k, .bl hx h5 h5', by omega, h7, h8⟩
   ·refine Tot.need ⟨by omega, by omega⟩ ?_; rw [Int.toNat_natCast, zev, Option.bind_some]; refine Tot.iteb (fun h6 => ?_) (fun h6 => .some ⟨v, .tok hx h5 (by simpa using h6), by omega, h2, .inr rfl⟩); simp only [decide_eq_true_eq] at h6; refine Tot.need ⟨by omega, by omega⟩ ?_; rw [zfs, Option.bind_some]
    rcases ib_cases (s.drop v) 10 with e | ⟨o, e, ho⟩
    ·rw [show (Int.toNat 10).toUInt8 = (10 : UInt8) from rfl, e]; rw [if_pos (by decide)]; exact .some ⟨s.length, .remE hx h5 h6 e, h2, Nat.le_refl _, .inr rfl⟩
    ·rw [show (Int.toNat 10).toUInt8 = (10 : UInt8) from rfl, e]; rw [if_neg (by simp only [decide_eq_true_eq]; omega)]; have h11 := rem_pos h6 e; rw [List.length_drop] at ho; rw [zfC (by omega) (by omega)]; exact (ih (v + o) (by omega) (by omega)).mono fun r ⟨k, h5', h7, h8, h9⟩ => ⟨k, .rem hx h5 h6 e h5', by omega, h8, h9⟩
theorem Sk_tot {n : Nat} {s : Str} {v : Nat} (hs : s.length < 4611686018427387904) (hn : s.length < v + n) (hv : v <= s.length) : Tot (zfI n s v) fun r => ∃ k : Nat, Sk s v k /\ v <= k /\ k <= s.length /\ r = k := by
 unfold zfI; refine (Sk_l1 s hs n v hn hv).bind fun r ⟨k, h0, h1, h2, h3⟩ => ?_
 rcases h3 with rfl | rfl <;> exact .some ⟨k, h0, h1, h2, rfl⟩
theorem Sk.det {s : Str} {v k k' : Nat} (h : Sk s v k) (h' : Sk s v k') : k = k' := by
 induction h with
 | out =>
   cases h' with
   | out => rfl
   | bl h1 => have := (List.getElem?_eq_some_iff.1 h1).1; omega
   | rem h1 => have := (List.getElem?_eq_some_iff.1 h1).1; omega
   | remE h1 => have := (List.getElem?_eq_some_iff.1 h1).1; omega
   | tok h1 => have := (List.getElem?_eq_some_iff.1 h1).1; omega
 | bl h1 h2 h3 ih =>
   cases h' with
   | out => have := (List.getElem?_eq_some_iff.1 h1).1; omega
   | bl k1 k2 k3 => exact ih k3
   | rem k1 k2 => rw [h1] at k1; cases k1; rw [h2] at k2; cases k2
   | remE k1 k2 => rw [h1] at k1; cases k1; rw [h2] at k2; cases k2
   | tok k1 k2 => rw [h1] at k1; cases k1; rw [h2] at k2; cases k2
 | rem h1 h2 h3 h4 h5 ih =>
   cases h' with
   | out => have := (List.getElem?_eq_some_iff.1 h1).1; omega
   | bl k1 k2 k3 => rw [h1] at k1; cases k1; rw [h2] at k2; cases k2
   | rem k1 k2 k3 k4 k5 => rw [h4] at k4; have := Int.ofNat_inj.1 k4; subst this; exact ih k5
   | remE k1 k2 k3 k4 => rw [h4] at k4; omega
   | tok k1 k2 k3 => exact absurd h3 k3
 | remE h1 h2 h3 h4 =>
   cases h' with
   | out => rfl
   | bl k1 k2 k3 => rw [h1] at k1; cases k1; rw [h2] at k2; cases k2
   | rem k1 k2 k3 k4 k5 => rw [h4] at k4; omega
   | remE k1 k2 k3 k4 => rfl
   | tok k1 k2 k3 => exact absurd h3 k3
 | tok h1 h2 h3 =>
   cases h' with
   | out => rfl
   | bl k1 k2 k3 => rw [h1] at k1; cases k1; rw [h2] at k2; cases k2
   | rem k1 k2 k3 k4 k5 => exact absurd k3 h3
   | remE k1 k2 k3 k4 => exact absurd k3 h3
   | tok k1 k2 k3 => rfl
theorem zlV {n : Nat} {s : Str} {v k : Nat} (hs : s.length < 4611686018427387904) (hn : s.length < v + n) (hv : v <= s.length) (h : Sk s v k) : zfI n s v = some (k : Int) /\ v <= k /\ k <= s.length := by
 obtain ⟨r, e, k', h1, h2, h3, rfl⟩ := Sk_tot hs hn hv; obtain rfl := h.det h1; exact ⟨e, h2, h3⟩
inductive Tk (n : Nat) (s : Str) : Nat -> List Tok -> Prop
 | nil : Tk n s s.length []
 | cons {v t k l} : v < s.length -> zfj n s v = some (t, 0) -> Sk s (v + t.za0.length) k -> Tk n s k l -> Tk n s v (t :: l)
section
variable {n : Nat} {s : Str}
theorem Tk.run (hs : s.length <= 65536) (hn : s.length < n) (hn2 : 26 < n) {v : Nat} {l' : List Tok} (h : Tk n s v l') : ∀ (c : Nat) (l : List Tok), s.length < v + c -> l.length <= v -> zcJ n s c l v = some (.inl (l ++ l')) := by
 induction h with
 | nil =>
   intro c l hc hl; obtain ⟨c, rfl⟩ : ∃ e, c = e + 1 := ⟨c - 1, by omega⟩; unfold zcJ; rw [if_neg (by simp only [decide_eq_true_eq]; omega), List.append_nil]
 | @cons v t k l' h1 h2 h3 h4 ih =>
   intro c l hc hl; obtain ⟨c, rfl⟩ : ∃ e, c = e + 1 := ⟨c - 1, by omega⟩; obtain ⟨x, ex, hx⟩ := zk5 (n := n) (s := s) (v := v) (by omega) hn hn2 h1; rw [h2] at ex; cases ex
   obtain ⟨k1, k2, k3, k4⟩ := hx rfl; obtain ⟨e, h8, h9⟩ := zlV (n := n) (by omega) (by omega) k4 h3; unfold zcJ; rw [if_pos (by simp only [decide_eq_true_eq]; omega), h2, Option.bind_some, if_neg (by simp), zdX (by simp only [List.length_singleton]; omega), zfC (by simp only at k4 ⊢; omega) (by simp only at k4 ⊢; omega)]; simp only; rw [show ((v : Int) + (t.za0.length : Int)) = ((v + t.za0.length : Nat) : Int) by omega, e, Option.bind_some, ih c _ (by simp only at k3; omega) (by simp only [List.length_append, List.length_singleton] at k3 ⊢; omega), List.append_assoc]; rfl
theorem zmG (hs : s.length <= 65536) (hn : s.length < n) (hn2 : 26 < n) {k : Nat} {l' : List Tok} (h0 : Sk s 0 k) (h : Tk n s k l') : zfN n s = some (l' ++ [⟨4, s.length, [], 0⟩], 0, 0) := by
 unfold zfN; obtain ⟨e, h8, h9⟩ := zlV (n := n) (by omega) (by omega) (by omega) h0; rw [show ((0 : Nat) : Int) = 0 from rfl] at e; have h1 := h.run hs hn hn2 n [] (by omega) (by simp); obtain ⟨z, ez, hz⟩ := zmF hs hn hn2 n [] k (by omega) h9 (by simp [TokOk]) (by simp); rw [h1] at ez; cases ez
 have h2 : ([] ++ l').length <= s.length := hz.2; rw [List.nil_append] at h1 h2; rw [if_neg (by simp only [decide_eq_true_eq]; omega), e, Option.bind_some, h1, Option.bind_some]; show need _ _ = _; rw [zdX (by simp only [List.length_singleton]; omega)]
end
abbrev AT := Int × Str × Int
def absT (t : Tok) : AT := (t.zba, t.za0, t.Num_)
def Nx (s : Str) (k : Int) (t : Str) (u : Int) : Prop := ∀ (n : Nat) (a : Str) (v : Nat), a.length < 1000000 -> a.length + 100 < n -> v < a.length -> a.drop v = s -> zfj n a v = some (⟨k, v, t, u⟩, 0)
inductive Lx : Str -> List AT -> Prop
 | nil : Lx [] []
 | bl {b r ts} : isBl b.toNat = true -> Lx r ts -> Lx (b :: r) ts
 | tok {b r k t u rest ts} : b :: r = t ++ rest -> isBl b.toNat = false -> (b :: r).take 2 ≠ [47, 47] -> Nx (b :: r) k t u -> Lx rest ts -> Lx (b :: r) ((k, t, u) :: ts)
theorem zit {a r : Str} {v : Nat} {b : UInt8} (h : a.drop v = b :: r) : a[v]? = some b := by
 have := congrArg (fun l => l[0]?) h; simpa [List.getElem?_drop] using this
theorem Lx.tk {r : Str} {ats : List AT} (h : Lx r ats) : ∀ (n : Nat) (a : Str) (v : Nat), a.length < 1000000 -> a.length + 100 < n -> v <= a.length -> a.drop v = r -> ∃ k l, Sk a v k /\ Tk n a k l /\ l.map absT = ats := by
 induction h with
 | nil =>
   intro n a v _ _ hv hr
   have : v = a.length := by
    have := congrArg List.length hr; rw [List.length_drop] at this; simp at this
    omega
   subst this; exact ⟨_, [], .out, .nil, rfl⟩
 | @bl b r ts hb h ih =>
   intro n a v ha hn hv hr
   have hlt : v < a.length := by
    have := congrArg List.length hr; rw [List.length_drop] at this; simp at this
    omega
   have hg : a[v]? = some b := zit hr; have hr' : a.drop (v + 1) = r := by rw [← List.drop_drop, hr]; rfl
   obtain ⟨k, l, h1, h2, h3⟩ := ih n a (v + 1) ha hn hlt hr'; exact ⟨k, l, .bl hg hb h1, h2, h3⟩
 | @tok b r k t u rest ts he hb h2 hx h ih =>
   intro n a v ha hn hv hr; have hlen := congrArg List.length hr; rw [List.length_drop] at hlen; have hlt : v < a.length := by simp at hlen; omega
   have hg : a[v]? = some b := zit hr; have hr' : a.drop (v + t.length) = rest := by rw [← List.drop_drop, hr, he, List.drop_left]
   have hle : v + t.length <= a.length := by rw [he, List.length_append] at hlen; omega
   obtain ⟨k', l, h3, h4, h5⟩ := ih n a (v + t.length) ha hn hle hr'; refine ⟨v, ⟨k, v, t, u⟩ :: l, .tok hg hb (by rw [hr]; exact h2), .cons hlt (hx n a v ha hn hlt hr) h3 h4, ?_⟩; rw [List.map_cons, h5]; rfl
theorem Lx.tokens {s : Str} {ats : List AT} (h : Lx s ats) {n : Nat} (hs : s.length <= 65536) (hn : s.length + 100 < n) : ∃ l, zfN n s = some (l ++ [⟨4, s.length, [], 0⟩], 0, 0) /\ l.map absT = ats := by
 obtain ⟨k, l, h1, h2, h3⟩ := h.tk n s 0 (by omega) (by omega) (by omega) rfl; exact ⟨l, zmG hs (by omega) (by omega) h1 h2, h3⟩
def nw (r : Str) : Prop := ∀ c r', r = c :: r' -> lod c = false
theorem ziw {t r : Str} (h : ∀ b ∈ t, lod b = true) (hr : nw r) : (t ++ r).takeWhile lod = t := by
 rw [List.takeWhile_append_of_pos h]; cases r with
 | nil => simp
 | cons c r => rw [List.takeWhile_cons_of_neg (by rw [hr c r rfl]; decide), List.append_nil]
theorem zjM {n : Nat} {a : Str} {v : Nat} (ha : a.length < 1000000) (hn : a.length + 100 < n) (hv : v < a.length) {b : UInt8} {r : Str} (hd : a.drop v = b :: r) : zh6 n (a.drop v) = some ((b :: r).takeWhile lod) /\ idxL a (v : Int) = some b /\ ((0 : Int) <= v /\ (v : Int) <= a.length) := by
 refine ⟨by rw [hd, zlJ (by rw [← hd, List.length_drop]; omega) (by rw [← hd, List.length_drop]; omega)], ?_, by omega⟩; unfold idxL; rw [if_pos (by omega), Int.toNat_natCast, zit hd]
theorem Nx_name {b : UInt8} {t r : Str} (hb : zi1 b.toNat = true) (ht : ∀ c ∈ b :: t, lod c = true) (hl : (b :: t).length <= 32) (hr : nw r) : Nx (b :: t ++ r) 1 (b :: t) 0 := by
 intro n a v ha hn hv hd; obtain ⟨h1, h2, h3⟩ := zjM ha hn hv (b := b) (r := t ++ r) hd; have hw := ziw ht hr; unfold zfj; rw [zdX h3, Int.toNat_natCast, h1, Option.bind_some, h2, Option.bind_some, zh0, Option.bind_some, if_pos hb, show (b :: (t ++ r)).takeWhile lod = b :: t from hw, if_neg (by simp only [decide_eq_true_eq]; omega)]
def dv (s : Str) : Nat := s.foldl (fun a b => a * 10 + (b.toNat - 48)) 0
theorem zjT (s : Str) (b : UInt8) : dv (s ++ [b]) = dv s * 10 + (b.toNat - 48) := by
 unfold dv; rw [List.foldl_append]; rfl
theorem zlc {k : Nat} (h : k < 10) : (UInt8.ofNat (48 + k)).toNat = 48 + k := by
 rw [UInt8.toNat_ofNat']; omega
theorem zmy (u : Nat) : dv (Lib.decDigits u) = u /\ (∀ b ∈ Lib.decDigits u, zhA b.toNat = true) /\ Lib.decDigits u ≠ [] := by
 induction u using Nat.strongRecOn with
 | ind u ih =>
   rw [Lib.decDigits]
   split
   ·rename_i h; refine ⟨?_, ?_, by simp⟩
    ·show 0 * 10 + ((UInt8.ofNat (48 + u)).toNat - 48) = u; rw [zlc h]; omega
    ·intro b hb; rw [List.mem_singleton.1 hb, zlc h]; simp only [zhA, Bool.and_eq_true, decide_eq_true_eq]; omega
   ·rename_i h; obtain ⟨h1, h2, h3⟩ := ih (u / 10) (by omega); have hm : u % 10 < 10 := Nat.mod_lt _ (by decide); refine ⟨?_, ?_, by simp⟩
    ·rw [zjT, h1, zlc hm]; omega
    ·intro b hb
     rcases List.mem_append.1 hb with hb | hb
     ·exact h2 b hb
     ·rw [List.mem_singleton.1 hb, zlc hm]; simp only [zhA, Bool.and_eq_true, decide_eq_true_eq]; omega
theorem ib_dig {b : UInt8} (h : zhA b.toNat = true) : Lib.indexByte [48, 49, 50, 51, 52, 53, 54, 55, 56, 57] b = ((b.toNat - 48 : Nat) : Int) := by
 have key : ∀ k : Fin 10, Lib.indexByte [48, 49, 50, 51, 52, 53, 54, 55, 56, 57] (UInt8.ofNat (48 + k.val)) = (k.val : Int) := by decide
 simp only [zhA, Bool.and_eq_true, decide_eq_true_eq] at h; have hk := key ⟨b.toNat - 48, by omega⟩
 have hb : UInt8.ofNat (48 + (b.toNat - 48)) = b := by
  rw [show 48 + (b.toNat - 48) = b.toNat by omega]; simp
 simp only [hb] at hk; exact hk
theorem dv_mono (s r : Str) : dv s <= dv (s ++ r) := by
 induction r generalizing s with
 | nil => rw [List.append_nil]; exact Nat.le_refl _
 | cons b r ih =>
   have := ih (s ++ [b]); rw [zjT, List.append_assoc] at this; exact Nat.le_trans (by omega) this
theorem zlM (s : Str) (hs : ∀ b ∈ s, zhA b.toNat = true) (hv : dv s <= 4294967295) (hl : s.length < 1000000) : ∀ (c v : Nat), s.length < v + c -> v <= s.length -> zdo s c (dv (s.take v)) v = some (.inl (dv s : Int)) := by
 intro c
 induction c with
 | zero => intro v h1 h2; omega
 | succ c ih =>
   intro v h1 h2; unfold zdo
   by_cases h4 : v < s.length
   ·have hx : s[v]? = some s[v] := List.getElem?_eq_getElem h4
    have hi : idxL s (v : Int) = some s[v] := by
     unfold idxL; rw [if_pos (by omega), Int.toNat_natCast, hx]
    have hd := hs _ (List.getElem_mem h4); have hst := take_step' hx
    have hm : dv (s.take (v + 1)) <= dv s := by
     have := dv_mono (s.take (v + 1)) (s.drop (v + 1))
     rwa [List.take_append_drop] at this
    rw [hst, zjT] at hm; have hib := ib_dig hd; have htk : (([48, 49, 50, 51, 52, 53, 54, 55, 56, 57, 97, 98, 99, 100, 101, 102] : Str).take (10 : Int).toNat) = [48, 49, 50, 51, 52, 53, 54, 55, 56, 57] := by decide
    have hbb : ((s[v].toNat : Int).toNat).toUInt8 = s[v] := by simp
    rw [if_pos (by simp only [decide_eq_true_eq]; omega), zdX (by decide), hi, Option.bind_some, zfs, htk, hbb, hib, Option.bind_some]; rw [zfC (n := (dv (s.take v) : Int) * 10) (by omega) (by omega), zfC (by omega) (by omega), if_neg (by simp only [decide_eq_true_eq]; omega), Option.bind_some, if_neg (by simp only [decide_eq_true_eq]; omega), zfC (n := (v : Int) + 1) (by omega) (by omega)]; have := ih (v + 1) (by omega) (by omega); rw [hst, zjT] at this; rw [← this]
    congr 1
   ·rw [if_neg (by simp only [decide_eq_true_eq]; omega), List.take_of_length_le (by omega)]
theorem lod_dig {b : UInt8} (h : zhA b.toNat = true) : lod b = true := by
 unfold lod; rw [h]; simp
theorem dig_let {c : Int} (h : zhA c = true) : zi1 c = false := by
 simp only [zhA, Bool.and_eq_true, decide_eq_true_eq] at h; simp only [zi1, Bool.or_eq_false_iff, Bool.and_eq_false_iff, decide_eq_false_iff_not, beq_eq_false_iff_ne]; omega
theorem Nx_num {u : Nat} (hu : u <= 4294967295) {r : Str} (hr : nw r) : Nx (Lib.decDigits u ++ r) 2 (Lib.decDigits u) u := by
 obtain ⟨h1, h2, h3⟩ := zmy u; cases hs : Lib.decDigits u with
 | nil => exact absurd hs h3
 | cons b t =>
   rw [hs] at h1 h2; intro n a v ha hn hv hd; obtain ⟨k1, k2, k3⟩ := zjM ha hn hv (b := b) (r := t ++ r) hd; have hw := ziw (t := b :: t) (fun c hc => lod_dig (h2 c hc)) hr; have hb := h2 b List.mem_cons_self
   have hl : (b :: t).length < 1000000 := by
    have := congrArg List.length hd; rw [List.length_drop, List.length_append] at this; omega
   have hp : (b :: t).take ([48, 120] : Str).length ≠ ([48, 120] : Str) := by
    intro e; cases t with
    | nil => exact absurd (congrArg List.length e) (by simp)
    | cons c t =>
      have e2 : [b, c] = ([48, 120] : Str) := e
      injection e2 with e3 e4
      injection e4 with e4
      have := h2 c (by simp); rw [e4] at this
      revert this; decide
   have hn2 : (b :: t).length < n := by
    have := congrArg List.length hd; rw [List.length_drop, List.length_append] at this; omega
   have hval : zfX n (b :: t) = some ((u : Int), true) := by
    unfold zfX; rw [zi0, Option.bind_some, if_neg hp, if_neg (by simp)]; have := zlM (b :: t) h2 (by rw [h1]; exact hu) hl n 0 (by omega) (by omega); rw [show dv ((b :: t).take 0) = 0 from rfl, h1] at this; rw [show ((0 : Nat) : Int) = 0 from rfl] at this; rw [this, Option.bind_some]; show some (IntKind.u32.wrap (u : Int), decide ((b :: t) ≠ [])) = _; have hwu : IntKind.u32.wrap (u : Int) = u := by rw [IntKind.wrap_u32]; omega
    rw [hwu]; simp
   unfold zfj; rw [zdX k3, Int.toNat_natCast, k1, Option.bind_some, k2, Option.bind_some, zh0, Option.bind_some, if_neg (by rw [dig_let hb]; decide), zi3, Option.bind_some, if_pos hb, show (b :: (t ++ r)).takeWhile lod = b :: t from hw, hval, Option.bind_some, if_neg (by simp)]
theorem zmM {b : UInt8} {t r : Str} (h1 : zi1 b.toNat = false) (h2 : zhA b.toNat = false) (hs : zii (b :: t ++ r) = b :: t) : Nx (b :: t ++ r) 3 (b :: t) 0 := by
 intro n a v ha hn hv hd; obtain ⟨k1, k2, k3⟩ := zjM ha hn hv (b := b) (r := t ++ r) hd; unfold zfj; rw [zdX k3, Int.toNat_natCast, k1, Option.bind_some, k2, Option.bind_some, zh0, Option.bind_some, if_neg (by rw [h1]; decide), zi3, Option.bind_some, if_neg (by rw [h2]; decide), zdX k3, zlZ (by omega), Option.bind_some, hd, hs, if_neg (by simp)]
def nameOk (t : Str) : Prop := (∃ b t', t = b :: t' /\ zi1 b.toNat = true) /\ (∀ c ∈ t, lod c = true) /\ t.length <= 32
theorem Lx.sp {r : Str} {ts : List AT} (h : Lx r ts) : Lx (32 :: r) ts := .bl (by decide) h
theorem zmi {c : Int} (h : zi1 c = true) : isBl c = false /\ c ≠ 47 := by
 simp only [zi1, Bool.or_eq_true, Bool.and_eq_true, decide_eq_true_eq, beq_iff_eq] at h; refine ⟨?_, by omega⟩; simp only [isBl, Bool.or_eq_false_iff, beq_eq_false_iff_ne]; omega
theorem zmx {c : Int} (h : zhA c = true) : isBl c = false /\ c ≠ 47 := by
 simp only [zhA, Bool.and_eq_true, decide_eq_true_eq] at h; refine ⟨?_, by omega⟩; simp only [isBl, Bool.or_eq_false_iff, beq_eq_false_iff_ne]; omega
theorem zmg {b : UInt8} {r : Str} (h : (b.toNat : Int) ≠ 47) : (b :: r).take 2 ≠ [47, 47] := by
 intro e; rw [List.take_succ_cons] at e
 injection e with e1 _
 rw [e1] at h; exact h rfl
theorem Lx.name {t r : Str} {ts : List AT} (ht : nameOk t) (hr : nw r) (h : Lx r ts) : Lx (t ++ r) ((1, t, 0) :: ts) := by
 obtain ⟨⟨b, t', rfl, hb⟩, h2, h3⟩ := ht; obtain ⟨h4, h5⟩ := zmi hb; exact .tok rfl h4 (zmg h5) (Nx_name hb h2 h3 hr) h
theorem Lx.num {u : Nat} {r : Str} {ts : List AT} (hu : u <= 4294967295) (hr : nw r) (h : Lx r ts) : Lx (Lib.decDigits u ++ r) ((2, Lib.decDigits u, u) :: ts) := by
 obtain ⟨h1, h2, h3⟩ := zmy u; have hx := Nx_num hu hr; cases hs : Lib.decDigits u with
 | nil => exact absurd hs h3
 | cons b t =>
   rw [hs] at h2 hx; obtain ⟨h4, h5⟩ := zmx (h2 b List.mem_cons_self); exact .tok rfl h4 (zmg h5) hx h
theorem Lx.s1 {c : UInt8} {r : Str} {ts : List AT} (hc : c ∈ ([40, 41, 123, 125, 91, 93, 44, 59, 58, 126] : Str)) (h : Lx r ts) : Lx (c :: r) ((3, [c], 0) :: ts) := by
 have h1 : ∀ c ∈ ([40, 41, 123, 125, 91, 93, 44, 59, 58, 126] : Str), zi1 c.toNat = false /\ zhA c.toNat = false /\ isBl c.toNat = false /\ (c.toNat : Int) ≠ 47 := by decide
 obtain ⟨a1, a2, a3, a4⟩ := h1 c hc
 have hs : zii ([c] ++ r) = [c] := by
  simp only [List.mem_cons, List.not_mem_nil, or_false] at hc
  rcases hc with rfl | rfl | rfl | rfl | rfl | rfl | rfl | rfl | rfl | rfl <;> simp [zii, zbh, List.find?]
 exact .tok rfl a3 (zmg a4) (zmM (t := []) a1 a2 hs) h
theorem Lx.sb {t r : Str} {ts : List AT} (ht : t ∈ zbh) (h : Lx r ts) : Lx (t ++ 32 :: r) ((3, t, 0) :: ts) := by
 simp only [zbh, List.mem_cons, List.not_mem_nil, or_false] at ht
 rcases ht with rfl | rfl | rfl | rfl | rfl | rfl | rfl | rfl | rfl | rfl | rfl | rfl | rfl | rfl | rfl | rfl | rfl | rfl | rfl | rfl | rfl | rfl | rfl | rfl | rfl | rfl <;>
  exact .tok rfl (by decide) (by simp) (zmM (by decide) (by decide) (by simp [zii, zbh, List.find?])) h.sp
end Go.Proofs.YtldnmmnnohnpkaaDoor.Abs
