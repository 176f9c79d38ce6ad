/-
  Own helper theorems of no one function: structs of numbers, strings and truth values compared.
-/
import Derived.Test.YtolhahlnccekcaaDoorPsS5
namespace Go.Proofs.YtolhahlnccekcaaDoor.Abs
open Go.RowKit
section
variable {P : Program} {T : TypeId} {x y : Operand} {C : V → Prop}
def litEq : TypeDesc → Value → Value → Option Bool
  | .bool, .bool a, .bool b => some (a == b)
  | .int _, .int k a, .int k' b => if k = k' then some (a == b) else none
  | .string, .string a, .string b => some (a == b)
  | _, _, _ => none
theorem equalIn_lit {n : Nat} {t : TypeId} {d : TypeDesc} {a b : Value} {r : Bool} (ht : P.underlying t = some d) (h : litEq d a b = some r) : pureS P (Op.equalIn (n + 1) t a b) = some r := by
  have hu : pureS P (underlying t) = some d := by
    show pureS P (match P.underlying t with | some d => pure d | none => stuck _) = _
    rw [ht]; rfl
  unfold Op.equalIn
  rw [pureS_bind hu]
  unfold litEq at h
  split at h
  · simp only [Option.some.injEq] at h; subst h; rfl
  · split at h
    · rename_i hk
      simp only [Option.some.injEq] at h; subst h
      simp only [if_pos hk]; rfl
    · cases h
  · simp only [Option.some.injEq] at h; subst h; rfl
  · cases h
theorem forIn_all {fs : List Field} {B : Field → Option Bool × Unit → Sem (ForInStep (Option Bool × Unit))} {e : Field → Bool} (h : ∀ f ∈ fs, ∀ r, pureS P (B f r) = some (if e f then .yield (none, ()) else .done (some false, ()))) : pureS P (forIn fs (none, ()) B) = some (if fs.all e then (none, ()) else (some false, ())) := by
  induction fs with
  | nil => rfl
  | cons f fs ih =>
    rw [List.forIn_cons, pureS_bind (h f (by simp) _)]
    cases he : e f with
    | true => simp only [if_true, List.all_cons, he, Bool.true_and]; exact ih fun g hg => h g (by simp [hg])
    | false => simp [he]; rfl
/-- fields of numbers, strings and truth values, each in one cell -/
def fieldsEq (P : Program) (xs ys : List Value) (f : Field) : Option Bool := match P.underlying f.type, xs[f.offset]?, ys[f.offset]? with
  | some d, some a, some b => litEq d a b
  | _, _, _ => none
def fieldFlat (P : Program) (f : Field) : Bool := f.name != "_" && (match P.underlying f.type with | some (.struct _) | some (.array _ _) => false | some _ => true | none => false)
theorem part_lit {t : TypeId} {d : TypeDesc} {xs : List Value} {o : Nat} {a : Value} (ht : P.underlying t = some d) (hd : ¬ (∃ f, d = .struct f) ∧ ¬ ∃ n e, d = .array n e) (h : xs[o]? = some a) : pureS P (part t xs.toArray o) = some a := by
  have hu : pureS P (isAgg t) = some false := by
    show pureS P (do match ← underlying t with | .struct .. | .array .. => pure true | _ => pure false) = _
    have hu : pureS P (underlying t) = some d := by
      show pureS P (match P.underlying t with | some d => pure d | none => stuck _) = _
      rw [ht]; rfl
    rw [pureS_bind hu]
    cases d <;> first | rfl | (exact absurd ⟨_, rfl⟩ hd.1) | exact absurd ⟨_, _, rfl⟩ hd.2
  unfold part
  rw [pureS_bind hu]
  simp only [Bool.false_eq_true, if_false, List.getElem?_toArray, h]
  rfl
theorem equal_struct {fs : Array Field} {xs ys : List Value} {e : Field → Bool} (hT : P.underlying T = some (.struct fs)) (hs : P.stoodInHeld T = false) (hf : (fs.toList.all (fieldFlat P)) = true) (he : ∀ f ∈ fs.toList, fieldsEq P xs ys f = some (e f)) : pureS P (Op.equal T (.agg xs.toArray) (.agg ys.toArray)) = some (fs.toList.all e) := by
  have hu : pureS P (underlying T) = some (TypeDesc.struct fs) := by
    show pureS P (match P.underlying T with | some d => pure d | none => stuck _) = _
    rw [hT]; rfl
  show pureS P (Op.equalIn (9999 + 1) T _ _) = _
  unfold Op.equalIn
  rw [pureS_bind hu]
  have hp : pureS P program = some P := rfl
  simp only
  rw [pureS_bind hp, hs]
  simp only [Bool.false_eq_true, if_false]
  rw [← Array.forIn_toList, pureS_bind (forIn_all (e := e) ?_)]
  · cases fs.toList.all e <;> rfl
  · intro f hfm r
    have h1 := List.all_eq_true.1 hf f hfm
    have h2 := he f hfm
    unfold fieldFlat at h1
    unfold fieldsEq at h2
    simp only [Bool.and_eq_true, bne_iff_ne, ne_eq] at h1
    split at h2
    · rename_i d a b hd ha hb
      have hd2 : ¬ (∃ f, d = .struct f) ∧ ¬ ∃ n e, d = .array n e := by
        have h3 := h1.2
        rw [hd] at h3
        constructor
        · rintro ⟨f, rfl⟩; simp at h3
        · rintro ⟨n, e, rfl⟩; simp at h3
      simp only [ne_eq, h1.1, not_false_eq_true, if_true]
      rw [pureS_bind (part_lit hd hd2 ha), pureS_bind (part_lit hd hd2 hb), pureS_bind (equalIn_lit hd h2)]
      cases e f <;> rfl
    · cases h2
def fieldsOf (P : Program) (T : TypeId) : List Field := match P.underlying T with | some (.struct fs) => fs.toList | _ => []
def isStruct (P : Program) (T : TypeId) : Bool := match P.underlying T with | some (.struct _) => true | _ => false
theorem equal_sagg {xs ys : List Value} {es : List Bool} (hT : isStruct P T = true) (hs : P.stoodInHeld T = false) (hf : ((fieldsOf P T).all (fieldFlat P)) = true) (he : (fieldsOf P T).map (fieldsEq P xs ys) = es.map some) : pureS P (Op.equal T (.agg xs.toArray) (.agg ys.toArray)) = some (es.all id) := by
  unfold isStruct at hT
  split at hT
  · rename_i fs hfs
    have e1 : fieldsOf P T = fs.toList := by unfold fieldsOf; rw [hfs]
    rw [e1] at hf he
    have key : ∀ f ∈ fs.toList, fieldsEq P xs ys f = some ((fieldsEq P xs ys f).getD false) := by
      intro f hfm
      have h1 : fieldsEq P xs ys f ∈ es.map some := by rw [← he]; exact List.mem_map_of_mem hfm
      obtain ⟨b, _, hb⟩ := List.mem_map.1 h1
      rw [← hb]; rfl
    rw [equal_struct hfs hs hf key]
    congr 1
    have h2 : fs.toList.map (fun f => (fieldsEq P xs ys f).getD false) = es := by
      have := congrArg (List.map fun o : Option Bool => o.getD false) he
      rw [List.map_map, List.map_map] at this
      simpa [Function.comp_def] using this
    rw [← h2, List.all_map]; rfl
  · cases hT
theorem lits_inj {xs xs' : List Value} (h : xs.map V.lit = xs'.map V.lit) : xs = xs' := by
  induction xs generalizing xs' with
  | nil => cases xs' with | nil => rfl | cons => cases h
  | cons a xs ih =>
    cases xs' with
    | nil => cases h
    | cons b xs' =>
      simp only [List.map_cons, List.cons.injEq, V.lit.injEq] at h
      rw [h.1, ih h.2]
theorem guard_sagg {op : BinOp} {xs ys : Array Value} (hg : P.eqGuardType P.depth T = false) : pureS P (eqGuard op T x y (.agg xs) (.agg ys)) = some () := by
  have hp : pureS P program = some P := rfl
  cases op <;> first
    | rfl
    | (show pureS P (program >>= fun p => program >>= fun p' => _) = _
       rw [pureS_bind hp, pureS_bind hp, hg]
       rfl)
theorem sbin_sagg {xs ys : List Value} {es : List Bool} (hT : isStruct P T = true) (hs : P.stoodInHeld T = false) (hg : P.eqGuardType P.depth T = false) (hf : ((fieldsOf P T).all (fieldFlat P)) = true) (he : (fieldsOf P T).map (fieldsEq P xs ys) = es.map some) :
    sbin P .eql T x y (.agg (xs.map V.lit)) (.agg (ys.map V.lit)) C = C (.lit (.bool (es.all id))) := by
  have key : pureS P (do eqGuard .eql T x y (.agg xs.toArray) (.agg ys.toArray); binOp .eql T (.agg xs.toArray) (.agg ys.toArray)) = some (.bool (es.all id)) := by
    rw [pureS_bind (guard_sagg hg)]
    show pureS P (do pure (Value.bool (← Op.equal T (.agg xs.toArray) (.agg ys.toArray)))) = _
    rw [pureS_bind (equal_sagg hT hs hf he)]
    rfl
  apply propext
  show (∃ (xs' ys' : List Value) (r : Value), _ ∧ _ ∧ pureS P _ = some r ∧ C (.lit r)) ↔ _
  constructor
  · rintro ⟨xs', ys', r, h1, h2, h3, h4⟩
    obtain rfl := lits_inj h1
    obtain rfl := lits_inj h2
    rw [key] at h3
    injection h3 with h3
    rw [h3]; exact h4
  · intro h
    exact ⟨xs, ys, _, rfl, rfl, key, h⟩
theorem bs_beq (a b : Str) : (bs a == bs b) = decide (a = b) := by
  by_cases h : a = b
  · subst h
    show (a.toArray == a.toArray) = _
    simp
  · rw [decide_eq_false h]
    show (a.toArray == b.toArray) = _
    simpa using h
end
end Go.Proofs.YtolhahlnccekcaaDoor.Abs
