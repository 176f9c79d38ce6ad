/-
  Own helper theorems of no one function: a region whose order is drawn; what is checked of its edges, and lists of a trace.
-/
import Derived.Test.YtolhahlnccekcaaDoorPwA16
namespace Go.Proofs.YtolhahlnccekcaaDoor.Abs
open Go.RowKit

/-! ### what is checked -/
def gslots (full : List Oper) (o : Oper) : List Nat := match o.guard with | some (j, _) => ((full[j]?).bind (·.dst)).toList | none => []
def looks (full : List Oper) (o : Oper) : List Nat := ((opnds o.op).filterMap fun | .tmp t => some t | _ => none) ++ gslots full o
def bef (tbl : List Nat) (x y : Nat) : Bool := (tbl.getD y 0).testBit x
abbrev Key := Nat × Nat × Oper
def pairOk (full : List Oper) (tbl : List Nat) (x y : Key) : Bool :=
  x.1 != y.1 &&
  (match x.2.2.dst with | some d => !((looks full y.2.2).contains d || y.2.2.dst == some d) || bef tbl x.1 y.1 | none => true) &&
  (match y.2.2.dst with | some d => !((looks full x.2.2).contains d) || bef tbl x.1 y.1 | none => true) &&
  (!(isEf y.2.2.op) || !(isEf x.2.2.op || isAl x.2.2.op || isLd x.2.2.op) || bef tbl x.1 y.1)
def pw {α : Type} (r : α → α → Bool) : List α → Bool
  | [] => true
  | a :: l => l.all (r a) && pw r l
def ldChk (tbl : List Nat) : List Key → List Nat → Bool
  | [], _ => true
  | (i, f, o) :: l, efs => (!(isLd o.op) || (efs.drop f).all fun j => bef tbl j i) && ldChk tbl l (if isEf o.op then i :: efs else efs)
def tblChk (full : List Oper) (tbl : List Nat) : Bool :=
  full.zipIdx.all fun p => (tbl.getD p.2 0 == p.1.after.toList.foldl (fun s e => if Region.binds .any e then s ||| 2 ^ e.on ||| tbl.getD e.on 0 else s) 0) && p.1.after.toList.all fun e => !(Region.binds .any e) || decide (e.on < p.2)
def keys (full : List Oper) (ord : List (Nat × Nat)) : List Key := ord.map fun p => (p.1, p.2, full.getD p.1 default)
def dOk (full : List Oper) (tbl : List Nat) (ord : List (Nat × Nat)) : Bool :=
  (List.range full.length).all (fun i => (ord.map (·.1)).contains i) && pw (pairOk full tbl) (keys full ord) && ldChk tbl (keys full ord) [] && tblChk full tbl

theorem pw_app {α : Type} {r : α → α → Bool} {A B : List α} (h : pw r (A ++ B) = true) : ∀ x ∈ A, ∀ y ∈ B, r x y = true := by
  induction A with
  | nil => intro x hx; cases hx
  | cons a A ih =>
    simp only [List.cons_append, pw, Bool.and_eq_true, List.all_eq_true] at h
    intro x hx y hy
    rcases List.mem_cons.1 hx with rfl | hx
    · exact h.1 y (by simp [hy])
    · exact ih h.2 x hx y hy
theorem foldl_bits {tbl : List Nat} {es : List Edge} : ∀ (s : Nat) (j : Nat), (es.foldl (fun s e => if Region.binds .any e then s ||| 2 ^ e.on ||| tbl.getD e.on 0 else s) s).testBit j = true →
    s.testBit j = true ∨ ∃ e ∈ es, Region.binds .any e = true ∧ (e.on = j ∨ bef tbl j e.on = true) := by
  induction es with
  | nil => intro s j h; exact .inl h
  | cons e es ih =>
    intro s j h
    rw [List.foldl_cons] at h
    rcases ih _ j h with h | ⟨e', he', h⟩
    · split at h
      · rename_i hb
        rw [Nat.testBit_or, Nat.testBit_or, Bool.or_eq_true, Bool.or_eq_true] at h
        rcases h with (h | h) | h
        · exact .inl h
        · refine .inr ⟨e, by simp, hb, .inl ?_⟩
          rw [Nat.testBit_two_pow] at h
          simpa using h
        · exact .inr ⟨e, by simp, hb, .inr h⟩
      · exact .inl h
    · exact .inr ⟨e', by simp [he'], h⟩
theorem tbl_edge {full : List Oper} {tbl : List Nat} (h : tblChk full tbl = true) {i j : Nat} {o : Oper} (ho : full[i]? = some o) (hb : bef tbl j i = true) : ∃ e ∈ o.after.toList, Region.binds .any e = true ∧ (e.on = j ∨ bef tbl j e.on = true) := by
  have h1 := List.all_eq_true.1 h (o, i) (by rw [List.mem_zipIdx_iff_getElem?]; exact ho)
  simp only [Bool.and_eq_true, beq_iff_eq] at h1
  have hb' : (tbl.getD i 0).testBit j = true := hb
  rw [h1.1] at hb'
  rcases foldl_bits 0 j hb' with h2 | h2
  · simp at h2
  · exact h2
theorem edge_lt {full : List Oper} {tbl : List Nat} (h : tblChk full tbl = true) {i : Nat} {o : Oper} (ho : full[i]? = some o) {e : Edge} (he : e ∈ o.after.toList) (hb : Region.binds .any e = true) : e.on < i := by
  have h1 := List.all_eq_true.1 h (o, i) (by rw [List.mem_zipIdx_iff_getElem?]; exact ho)
  simp only [Bool.and_eq_true] at h1
  have h2 := List.all_eq_true.1 h1.2 e he
  simpa [hb] using h2

/-! ### lists of a trace -/
def Ev.key (e : Ev) : Key := (e.i, e.f, e.o)
section
variable {P : Program} {full : List Oper} {π : Pa} {k0 : Nat}
theorem endE_app {A B : List Ev} {E : Env} : endE (A ++ B) E = endE B (endE A E) := by
  induction A generalizing E with
  | nil => rfl
  | cons e A ih => exact ih
theorem endM_app {A B : List Ev} {m : M} : endM (A ++ B) m = endM B (endM A m) := by
  induction A generalizing m with
  | nil => rfl
  | cons e A ih => exact ih
theorem putE_comm {d1 d2 : Option Nat} {v1 v2 : V} {E : Env} (h : ∀ d, d2 = some d → d1 ≠ some d) : putE d1 v1 (putE d2 v2 E) = putE d2 v2 (putE d1 v1 E) := by
  cases d1 with
  | none => rfl
  | some a =>
    cases d2 with
    | none => rfl
    | some b =>
      have hne : a ≠ b := fun e => h b rfl (by rw [e])
      funext t
      show (if t = a then v1 else if t = b then v2 else E t) = if t = b then v2 else if t = a then v1 else E t
      by_cases h1 : t = a
      · rw [if_pos h1, if_neg (by omega), if_pos h1]
      · rw [if_neg h1, if_neg h1]
theorem endE_comm {L : List Ev} {d : Option Nat} {v : V} : ∀ {E : Env}, (∀ e ∈ L, ∀ t, d = some t → e.o.dst ≠ some t) → endE L (putE d v E) = putE d v (endE L E) := by
  induction L with
  | nil => intro E _; rfl
  | cons e L ih =>
    intro E h
    show endE L (putE e.o.dst e.v (putE d v E)) = putE d v (endE L (putE e.o.dst e.v E))
    rw [putE_comm (fun t ht => h e (by simp) t ht)]
    exact ih (fun x hx => h x (by simp [hx]))
theorem putE_ne {d : Option Nat} {v : V} {E : Env} {t : Nat} (h : d ≠ some t) : putE d v E t = E t := by
  cases d with
  | none => rfl
  | some a =>
    show (if t = a then v else E t) = E t
    rw [if_neg (fun e => h (by rw [e]))]
theorem putE_at {d : Option Nat} {v : V} {E E' : Env} {t : Nat} (h : E t = E' t) : putE d v E t = putE d v E' t := by
  cases d with
  | none => exact h
  | some a =>
    show (if t = a then v else E t) = if t = a then v else E' t
    rw [h]
theorem endE_ne {L : List Ev} {t : Nat} : ∀ {E : Env}, (∀ e ∈ L, e.o.dst ≠ some t) → endE L E t = E t := by
  induction L with
  | nil => intro E _; rfl
  | cons e L ih =>
    intro E h
    exact (ih (fun x hx => h x (by simp [hx]))).trans (putE_ne (h e (by simp)))
theorem endE_filter {L : List Ev} {p : Ev → Bool} {t : Nat} : ∀ {E E' : Env}, E t = E' t → (∀ e ∈ L, p e = false → e.o.dst ≠ some t) → endE (L.filter p) E t = endE L E' t := by
  induction L with
  | nil => intro E E' h _; exact h
  | cons e L ih =>
    intro E E' h hp
    rw [List.filter_cons]
    split
    · exact ih (putE_at h) (fun x hx => hp x (by simp [hx]))
    · rename_i hpe
      refine ih ?_ (fun x hx => hp x (by simp [hx]))
      rw [putE_ne (hp e (by simp) (by simpa using hpe))]; exact h

theorem Lnk.right {A B : List Ev} : ∀ {E : Env} {m : M} {hist : List M}, Lnk (A ++ B) E m hist → ∃ h', Lnk B (endE A E) (endM A m) h' ∧ h' = ((A.filter Ev.ef).reverse.map (·.m)) ++ hist := by
  induction A with
  | nil => intro E m hist h; exact ⟨hist, h, rfl⟩
  | cons e A ih =>
    intro E m hist h
    obtain ⟨h1, h2, h3, h4⟩ := h
    obtain ⟨h', k1, k2⟩ := ih h4
    refine ⟨h', k1, ?_⟩
    rw [k2, List.filter_cons]
    split
    · rename_i he
      rw [List.reverse_cons, List.map_append, List.append_assoc, ← h2]; rfl
    · rfl
theorem Lnk.head {e : Ev} {B : List Ev} {E : Env} {m : M} {hist : List M} (h : Lnk (e :: B) E m hist) : e.E = E ∧ e.m = m ∧ e.hist = hist := ⟨h.1, h.2.1, h.2.2.1⟩

theorem set_comm {m : M} {p p' : Pa} {vs vs' : List V} (h : p ≠ p') : (m.set p vs).set p' vs' = (m.set p' vs').set p vs := by
  have : (fun i => if i = p' then some vs' else if i = p then some vs else m.blk i) = fun i => if i = p then some vs else if i = p' then some vs' else m.blk i := by
    funext i
    by_cases h1 : i = p'
    · rw [if_pos h1, if_neg (fun e => h (e.symm.trans h1)), if_pos h1]
    · rw [if_neg h1, if_neg h1]
  show M.mk _ m.ver m.tok m.gl = M.mk _ m.ver m.tok m.gl
  exact congrArg (fun b => M.mk b m.ver m.tok m.gl) this
theorem setAll_comm {L : List (Pa × List V)} {p : Pa} {vs : List V} : ∀ {m : M}, (∀ y ∈ L, y.1 ≠ p) → setAll (m.set p vs) L = (setAll m L).set p vs := by
  induction L with
  | nil => intro m _; rfl
  | cons y L ih =>
    intro m h
    show setAll ((m.set p vs).set y.1 (y.2.map V.raw0)) L = (setAll (m.set y.1 (y.2.map V.raw0)) L).set p vs
    rw [set_comm (fun e => h y (by simp) e.symm)]
    exact ih (fun x hx => h x (by simp [hx]))
theorem setAll_app {A B : List (Pa × List V)} {m : M} : setAll m (A ++ B) = setAll (setAll m A) B := by simp [setAll]
theorem setAll_none {L : List (Pa × List V)} {id : Pa} : ∀ {m : M}, (setAll m L).blk id = none → m.blk id = none ∧ ∀ x ∈ L, x.1 ≠ id := by
  induction L with
  | nil => intro m h; exact ⟨h, by simp⟩
  | cons x L ih =>
    intro m h
    obtain ⟨h1, h2⟩ := ih (m := m.set x.1 (x.2.map V.raw0)) h
    have h1' : (if id = x.1 then some (x.2.map V.raw0) else m.blk id) = none := h1
    split at h1'
    · cases h1'
    · rename_i hne
      refine ⟨h1', fun y hy => ?_⟩
      rcases List.mem_cons.1 hy with rfl | hy
      · exact fun e => hne e.symm
      · exact h2 y hy
theorem setAll_other {L : List (Pa × List V)} {id : Pa} : ∀ {m : M}, (∀ x ∈ L, x.1 ≠ id) → (setAll m L).blk id = m.blk id := by
  induction L with
  | nil => intro m _; rfl
  | cons x L ih =>
    intro m h
    refine (ih (m := m.set x.1 (x.2.map V.raw0)) (fun y hy => h y (by simp [hy]))).trans ?_
    show (if id = x.1 then _ else m.blk id) = _
    rw [if_neg (fun e => h x (by simp) e.symm)]
theorem setAll_gl {L : List (Pa × List V)} : ∀ {m : M}, (setAll m L).gl = m.gl := by
  induction L with
  | nil => intro m; rfl
  | cons x L ih => intro m; exact ih (m := m.set x.1 (x.2.map V.raw0))
theorem setAll_ver {L : List (Pa × List V)} : ∀ {m : M}, (setAll m L).ver = m.ver := by
  induction L with
  | nil => intro m; rfl
  | cons x L ih => intro m; exact ih (m := m.set x.1 (x.2.map V.raw0))

def path (π : Pa) (k0 : Nat) (e : Ev) : Pa := (k0 + e.i) :: π
def pv (π : Pa) (k0 : Nat) (e : Ev) : Pa × List V := (path π k0 e, e.ac)
theorem Fact.next {e : Ev} (h : Fact P full π k0 e) (he : e.ef = false) : e.m' = if e.al then e.m.set (path π k0 e) (e.ac.map V.raw0) else e.m := by
  obtain ⟨_, _, h1, h2⟩ := h
  cases hr : e.run with
  | false => rw [(h1 hr).2, if_neg (by simp [Ev.al, hr])]
  | true =>
    have hd := h2 hr
    unfold Did at hd
    have he' : isEf e.o.op = false := he
    rw [if_neg (by simp [he'])] at hd
    cases ha : isAl e.o.op with
    | true =>
      rw [if_pos ha] at hd
      rw [if_pos (by simp [Ev.al, hr, ha])]; exact hd.2.2
    | false =>
      rw [if_neg (by simp [ha])] at hd
      rw [if_neg (by simp [Ev.al, ha])]
      split at hd
      · exact hd.2
      · exact hd.2
theorem seg_mem {A : List Ev} : ∀ {E : Env} {m : M} {hist : List M} {B : List Ev}, Lnk (A ++ B) E m hist → (∀ e ∈ A, Fact P full π k0 e) → (∀ e ∈ A, e.ef = false) → endM A m = setAll m ((A.filter Ev.al).map (pv π k0)) := by
  induction A with
  | nil => intro E m hist B _ _ _; rfl
  | cons e A ih =>
    intro E m hist B h hf hn
    obtain ⟨h1, h2, h3, h4⟩ := h
    have hnx := (hf e (by simp)).next (hn e (by simp))
    have hih := ih h4 (fun x hx => hf x (by simp [hx])) (fun x hx => hn x (by simp [hx]))
    show endM A e.m' = _
    rw [hih, hnx, List.filter_cons]
    split
    · rename_i ha
      rw [h2]; rfl
    · rw [h2]
theorem Fact.gl {e : Ev} (h : Fact P full π k0 e) : e.m'.gl = e.m.gl := by
  cases he : e.ef with
  | false =>
    rw [h.next he]; split <;> rfl
  | true =>
    obtain ⟨_, _, h1, h2⟩ := h
    cases hr : e.run with
    | false => rw [(h1 hr).2]
    | true =>
      have hd := h2 hr
      unfold Did at hd
      rw [if_pos (show isEf e.o.op = true from he)] at hd
      exact hd.2
theorem Lnk.gl {tr : List Ev} : ∀ {E : Env} {m : M} {hist : List M}, Lnk tr E m hist → (∀ e ∈ tr, Fact P full π k0 e) → (∀ e ∈ tr, e.m.gl = m.gl) ∧ (endM tr m).gl = m.gl := by
  induction tr with
  | nil => intro E m hist _ _; exact ⟨by simp, rfl⟩
  | cons e tr ih =>
    intro E m hist h hf
    obtain ⟨h1, h2, h3, h4⟩ := h
    obtain ⟨k1, k2⟩ := ih h4 (fun x hx => hf x (by simp [hx]))
    have hg := (hf e (by simp)).gl
    rw [h2] at hg
    refine ⟨fun x hx => ?_, k2.trans hg⟩
    rcases List.mem_cons.1 hx with rfl | hx
    · rw [h2]
    · exact (k1 x hx).trans hg
theorem ldChk_at {tbl : List Nat} {A : List Key} {e : Key} {B : List Key} : ∀ {efs : List Nat}, ldChk tbl (A ++ e :: B) efs = true → isLd e.2.2.op = true → ∀ j ∈ (((A.filter (fun x => isEf x.2.2.op)).reverse.map (·.1)) ++ efs).drop e.2.1, bef tbl j e.1 = true := by
  induction A with
  | nil =>
    intro efs h hl
    obtain ⟨i, f, o⟩ := e
    simp only [List.nil_append, ldChk, Bool.and_eq_true, Bool.or_eq_true] at h
    rcases h.1 with h1 | h1
    · simp [show isLd o.op = true from hl] at h1
    · simpa using h1
  | cons a A ih =>
    intro efs h hl
    obtain ⟨i, f, o⟩ := a
    simp only [List.cons_append, ldChk, Bool.and_eq_true] at h
    have := ih h.2 hl
    rw [List.filter_cons]
    split at this
    · rename_i he
      rw [if_pos he]
      simpa using this
    · rename_i he
      rw [if_neg he]
      exact this
end
end Go.Proofs.YtolhahlnccekcaaDoor.Abs
