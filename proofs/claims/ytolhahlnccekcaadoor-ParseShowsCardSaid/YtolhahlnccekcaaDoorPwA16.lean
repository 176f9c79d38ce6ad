/-
  Own helper theorems of no one function: the trace of a region whose order is drawn.
-/
import Derived.Test.YtolhahlnccekcaaDoorPwA15
namespace Go.Proofs.YtolhahlnccekcaaDoor.Abs
open Go.RowKit

def isEf : Op → Bool
  | .store _ _ _ => true
  | .call ⟨.builtin .len, _, _⟩ => false
  | .call ⟨.builtin .min, _, _⟩ => false
  | .call ⟨.builtin .max, _, _⟩ => false
  | .call _ => true
  | _ => false
def isAl : Op → Bool
  | .alloc _ => true
  | .box _ _ => true
  | _ => false
def isLd : Op → Bool
  | .load _ _ => true
  | _ => false

/-- the operands that an operation looks at -/
def opnds : Op → List Operand
  | .move x => [x]
  | .assign x => [x]
  | .pick t x y => [t, x, y]
  | .box _ x => [x]
  | .build _ ps => ps.toList.map (·.2)
  | .buildSlice _ _ ps => ps.toList.map (·.2)
  | .load _ x => [x]
  | .store _ a x => [a, x]
  | .nilCheck x => [x]
  | .binOp _ _ x y _ => [x, y]
  | .unOp _ _ x => [x]
  | .convert _ _ x => [x]
  | .makeFunc _ xs ys => xs.toList ++ ys.toList
  | .slice _ x lo hi _ => x :: (lo.toList ++ hi.toList)
  | .fieldAddr _ x _ => [x]
  | .field _ x _ => [x]
  | .indexAddr _ x i => [x, i]
  | .index _ x i => [x, i]
  | .extract t _ => [t]
  | .call cl => (match cl.callee with | .value f => [f] | _ => []) ++ cl.args.toList
  | _ => []

/-- an operation that neither reads nor writes the memory -/
def pop (P : Program) (op : Op) (g : Operand → V) (C : V → Prop) : Prop :=
  match op with
  | .move x => C (g x)
  | .assign x => C (g x)
  | .pick t x y => (match g t with | .lit (.bool b) => C (if b then g x else g y) | _ => False)
  | .build T ps => sbuild P T (ps.toList.map fun p => (p.1, g p.2)) C
  | .buildSlice T n ps => sbuildSlice P T n (ps.toList.map fun p => (p.1, g p.2)) C
  | .nilCheck x => (match g x with | .ptr id off => C (.ptr id off) | .eptr rows i off => C (.eptr rows i off) | _ => False)
  | .binOp op T x y _ => sbin P op T x y (g x) (g y) C
  | .unOp op _ x => sun op (g x) C
  | .convert s d x => sconv P s d (g x) C
  | .makeFunc f xs ys => C (.fn f (xs.toList.map g) (ys.toList.map g))
  | .slice T x lo hi none => sslice P T (g x) (lo.map g) (hi.map g) C
  | .fieldAddr T x f => sfieldA P T f (g x) C
  | .field T x f => sfield P T f (g x) C
  | .indexAddr T x i => sindexA P T (g x) (g i) C
  | .index T x i => sindex P T (g x) (g i) C
  | .extract t i => (match g t with | .tup vs => (match vs[i]? with | some v => C v | none => False) | _ => False)
  | .call ⟨.builtin .len, xs, ts⟩ => (match ts[0]?, xs.toList with | some T, [x] => slen P T (g x) C | _, _ => False)
  | .call ⟨.builtin .min, xs, _⟩ => (match xs.toList with | [x, y] => sminmax false (g x) (g y) C | _ => False)
  | .call ⟨.builtin .max, xs, _⟩ => (match xs.toList with | [x, y] => sminmax true (g x) (g y) C | _ => False)
  | _ => False

section
variable {P : Program} {o : Oper} {q : Pa} {E E1 : Env} {m m1 : M}
theorem stepOp_pop {C : V → M → Prop} (h : pop P o.op (ev m E) (fun v => C v m)) : stepOp P o q E m C := by
  obtain ⟨dst, op, ty, pos, after, guard⟩ := o
  cases op with
  | call cl =>
    obtain ⟨callee, args, ats⟩ := cl
    cases callee with
    | builtin b => cases b <;> first | exact h | exact h.elim
    | _ => exact h.elim
  | slice T x lo hi mx => cases mx <;> first | exact h | exact h.elim
  | _ => first | exact h | exact h.elim
theorem pop_congr {op : Op} {g g1 : Operand → V} {C : V → Prop} (h : pop P op g C) (hg : ∀ x ∈ opnds op, g1 x = g x) : pop P op g1 C := by
  cases op with
  | call cl =>
    obtain ⟨callee, args, ats⟩ := cl
    cases callee with
    | builtin b =>
      cases b <;> first
        | exact h.elim
        | (simp only [pop] at h ⊢
           split at h
           · rename_i he
             simp only [opnds, he, List.nil_append, List.mem_cons, List.not_mem_nil, or_false] at hg
             simp_all
           · exact h.elim)
        | (simp only [pop] at h ⊢
           split at h
           · rename_i hT he
             simp only [opnds, he, List.nil_append, List.mem_cons, List.not_mem_nil, or_false] at hg
             simp_all
           · exact h.elim)
    | _ => exact h.elim
  | build T ps =>
    have : (ps.toList.map fun p => (p.1, g1 p.2)) = ps.toList.map fun p => (p.1, g p.2) := List.map_congr_left fun p hp => by
      rw [hg p.2 (by simp only [opnds, List.mem_map]; exact ⟨p, hp, rfl⟩)]
    simp only [pop] at h ⊢
    rw [this]; exact h
  | buildSlice T n ps =>
    have : (ps.toList.map fun p => (p.1, g1 p.2)) = ps.toList.map fun p => (p.1, g p.2) := List.map_congr_left fun p hp => by
      rw [hg p.2 (by simp only [opnds, List.mem_map]; exact ⟨p, hp, rfl⟩)]
    simp only [pop] at h ⊢
    rw [this]; exact h
  | makeFunc f xs ys =>
    have h1 : xs.toList.map g1 = xs.toList.map g := List.map_congr_left fun p hp => hg p (by simp [opnds]; exact .inl (by simpa using hp))
    have h2 : ys.toList.map g1 = ys.toList.map g := List.map_congr_left fun p hp => hg p (by simp [opnds]; exact .inr (by simpa using hp))
    simp only [pop] at h ⊢
    rw [h1, h2]; exact h
  | slice T x lo hi mx =>
    cases mx with
    | some _ => exact h.elim
    | none =>
      have h0 := hg x (by simp [opnds])
      have h1 : lo.map g1 = lo.map g := by
        cases lo with
        | none => rfl
        | some l => simp [hg l (by simp [opnds])]
      have h2 : hi.map g1 = hi.map g := by
        cases hi with
        | none => rfl
        | some l => simp [hg l (by simp [opnds])]
      simp only [pop] at h ⊢
      rw [h0, h1, h2]; exact h
  | _ =>
    first
      | exact h.elim
      | (simp only [opnds, List.mem_cons, List.not_mem_nil, or_false, forall_eq_or_imp, forall_eq] at hg
         simp only [pop] at h ⊢
         simp only [hg]
         exact h)

/-- the cells of a new block -/
def acells (P : Program) (op : Op) (g : Operand → V) : Option (List V) :=
  match op with
  | .alloc T => zcells P T
  | .box _ x => if (g x).cellsOk then some (g x).cells else none
  | _ => none
theorem acells_congr {op : Op} {g g1 : Operand → V} (hg : ∀ x ∈ opnds op, g1 x = g x) : acells P op g1 = acells P op g := by
  cases op with
  | box T x => simp only [acells]; rw [hg x (by simp [opnds])]
  | _ => rfl
theorem acells_run {c : Conc} {w : World} {a : Act} {N : Nat} {vs : List V} (h : acells P o.op (ev m E) = some vs) (hE : EnvOk c E a N) (hR : Rep c m w) :
    ∃ cs T, CR c vs cs ∧ (∀ u ∈ cs, u.oneCell' = true) ∧ (execOp a.eval o).run P w = .ok (.value (.pointer (some ⟨w.heap.size, 0, none⟩))) (w.alloc (.cells cs.toArray T)) := by
  obtain ⟨dst, op, ty, pos, after, guard⟩ := o
  cases op with
  | alloc T =>
    obtain ⟨z, hz1, hz2, hz3⟩ := zcells_ok (P := P) (T := T) h c
    exact ⟨z.cells.toList, T, hz2, hz3, by simp [execOp, Instr.alloc, hz1 w, newVar, newRow]⟩
  | box T x =>
    simp only [acells] at h
    split at h
    · rename_i ho
      injection h with h
      obtain ⟨k1, k2⟩ := cells_ok (hE.ev hR x) ho
      exact ⟨(a.eval x).cells.toList, T, by rw [← h]; exact k1, k2, by simp [execOp, Instr.box, newVar, newRow]⟩
    · cases h
  | _ => cases h

/-- calls and stores hang on their operands alone -/
theorem stepOp_ef {C : V → M → Prop} (hk : isEf o.op = true) (h : stepOp P o q E m C) (hg : ∀ x ∈ opnds o.op, ev m E1 x = ev m E x) : stepOp P o q E1 m C := by
  obtain ⟨dst, op, ty, pos, after, guard⟩ := o
  cases op with
  | store T a x =>
    simp only [opnds, List.mem_cons, List.not_mem_nil, or_false, forall_eq_or_imp, forall_eq] at hg
    simp only [stepOp] at h ⊢
    rw [hg.1, hg.2]; exact h
  | call cl =>
    obtain ⟨callee, args, ats⟩ := cl
    cases callee with
    | builtin b =>
      cases b <;> first
        | exact h.elim
        | (simp only [stepOp, scall] at h ⊢
           split at h
           · rename_i he
             simp only [opnds, he, List.nil_append, List.mem_cons, List.not_mem_nil, or_false, forall_eq_or_imp, forall_eq] at hg
             first
               | (simp only [hg]; exact h)
               | (simp only [hg.1, hg.2]; exact h)
           · exact h.elim)
        | (simp only [stepOp, scall] at h ⊢
           split at h
           · rename_i hT he
             simp only [opnds, he, List.nil_append, List.mem_cons, List.not_mem_nil, or_false, forall_eq_or_imp, forall_eq] at hg
             first
               | (simp only [hg]; exact h)
               | (simp only [hg.1, hg.2]; exact h)
           · exact h.elim)
    | value f =>
      have h1 : args.toList.map (ev m E1) = args.toList.map (ev m E) := List.map_congr_left fun x hx => hg x (by simp only [opnds, List.mem_append]; exact .inr hx)
      have h0 := hg f (by simp [opnds])
      simp only [stepOp, scall] at h ⊢
      rw [h0, h1]; exact h
    | _ => exact h.elim
  | _ => cases hk
end

/-! ### the trace -/
structure Ev where
  i : Nat
  f : Nat
  o : Oper
  run : Bool
  v : V
  E : Env
  m : M
  m' : M
  hist : List M
  ac : List V
def Ev.ef (e : Ev) : Bool := isEf e.o.op
def Ev.al (e : Ev) : Bool := e.run && isAl e.o.op
def Gate (full : List Oper) (g : Option (Nat × Bool)) (E : Env) (run : Bool) : Prop :=
  match g with
  | none => run = true
  | some (j, b) => ∃ d, (full[j]?).bind (·.dst) = some d ∧ ((∃ t, E d = .lit (.bool t) ∧ run = decide (t = b)) ∨ ((∃ vs, E d = .lit (.tuple vs)) ∧ run = false))
def Did (P : Program) (q : Pa) (e : Ev) : Prop :=
  if isEf e.o.op then stepOp P e.o q e.E e.m (fun r m1 => r = e.v ∧ m1 = e.m') ∧ e.m'.gl = e.m.gl
  else if isAl e.o.op then acells P e.o.op (ev e.m e.E) = some e.ac ∧ e.v = .ptr q 0 ∧ e.m' = e.m.set q (e.ac.map V.raw0)
  else match e.o.op with
    | .load T x => (∀ m1 ∈ e.m :: e.hist.take e.f, sload P m1 T (ev e.m e.E x) (fun r => r = e.v)) ∧ e.m' = e.m
    | op => pop P op (ev e.m e.E) (fun r => r = e.v) ∧ e.m' = e.m
def Fact (P : Program) (full : List Oper) (π : Pa) (k0 : Nat) (e : Ev) : Prop :=
  full[e.i]? = some e.o ∧ Gate full e.o.guard e.E e.run ∧ (e.run = false → e.v = .lit undef ∧ e.m' = e.m) ∧ (e.run = true → Did P ((k0 + e.i) :: π) e)
def Lnk : List Ev → Env → M → List M → Prop
  | [], _, _, _ => True
  | e :: tr, E, m, hist => e.E = E ∧ e.m = m ∧ e.hist = hist ∧ Lnk tr (putE e.o.dst e.v E) e.m' (if e.ef then m :: hist else hist)
def endE : List Ev → Env → Env
  | [], E => E
  | e :: tr, E => endE tr (putE e.o.dst e.v E)
def endM : List Ev → M → M
  | [], m => m
  | e :: tr, _ => endM tr e.m'

/-! ### what is to be shown of a region whose order is drawn -/
def dop (P : Program) (op : Op) (o : Oper) (f : Nat) (q : Pa) (hist : List M) (E : Env) (m : M) (C : V → M → List M → Prop) : Prop :=
  match op with
  | .load T x => ∃ v, sload P m T (ev m E x) (fun r => r = v) ∧ (∀ m1 ∈ hist.take f, sload P m1 T (ev m E x) (fun r => r = v)) ∧ C v m hist
  | .alloc T => ∃ vs, zcells P T = some vs ∧ C (.ptr q 0) (m.set q (vs.map V.raw0)) hist
  | .box _ x => (ev m E x).cellsOk = true ∧ C (.ptr q 0) (m.set q ((ev m E x).cells.map V.raw0)) hist
  | op => if isEf op then ∃ v m', stepOp P o q E m (fun r m1 => r = v ∧ m1 = m') ∧ m'.gl = m.gl ∧ C v m' (m :: hist)
    else ∃ v, pop P op (ev m E) (fun r => r = v) ∧ C v m hist
def PD (P : Program) (full : List Oper) (π : Pa) (k0 : Nat) (K : Nat → Env → M → Prop) : List (Nat × Nat) → List M → Env → M → Prop
  | [], _, E, m => K (k0 + full.length) E m
  | (i, f) :: rest, hist, E, m =>
    match full[i]? with
    | none => False
    | some o =>
      match o.guard with
      | none => dop P o.op o f ((k0 + i) :: π) hist E m (fun v m' hist' => PD P full π k0 K rest hist' (putE o.dst v E) m')
      | some (j, b) =>
        match (full[j]?).bind (·.dst) with
        | none => False
        | some d =>
          match E d with
          | .lit (.bool t) => if t = b then dop P o.op o f ((k0 + i) :: π) hist E m (fun v m' hist' => PD P full π k0 K rest hist' (putE o.dst v E) m') else PD P full π k0 K rest (if isEf o.op then m :: hist else hist) (putE o.dst (.lit undef) E) m
          | .lit (.tuple _) => PD P full π k0 K rest (if isEf o.op then m :: hist else hist) (putE o.dst (.lit undef) E) m
          | _ => False

section
variable {P : Program} {full : List Oper} {π : Pa} {k0 : Nat} {K : Nat → Env → M → Prop}
theorem dop_did {o : Oper} {i f : Nat} {q : Pa} {hist : List M} {E : Env} {m : M} {C : V → M → List M → Prop} (h : dop P o.op o f q hist E m C) :
    ∃ v m' ac, C v m' (if isEf o.op then m :: hist else hist) ∧ Did P q ⟨i, f, o, true, v, E, m, m', hist, ac⟩ := by
  unfold dop at h
  split at h
  · rename_i T x ho
    obtain ⟨v, h1, h2, h3⟩ := h
    refine ⟨v, m, [], by rw [ho]; exact h3, ?_⟩
    unfold Did
    simp only [ho, isEf, isAl, Bool.false_eq_true, if_false]
    refine ⟨fun m1 hm1 => ?_, trivial⟩
    rcases List.mem_cons.1 hm1 with rfl | hm1
    · exact h1
    · exact h2 m1 hm1
  · rename_i T ho
    obtain ⟨vs, h1, h2⟩ := h
    refine ⟨_, _, vs, by rw [ho]; exact h2, ?_⟩
    unfold Did
    simp only [ho, isEf, isAl, Bool.false_eq_true, if_false, if_true]
    exact ⟨h1, trivial, trivial⟩
  · rename_i T x ho
    obtain ⟨h1, h2⟩ := h
    refine ⟨_, _, (ev m E x).cells, by rw [ho]; exact h2, ?_⟩
    unfold Did
    simp only [ho, isEf, isAl, Bool.false_eq_true, if_false, if_true]
    exact ⟨by simp only [acells, h1, if_true], trivial, trivial⟩
  · rename_i n1 n2 n3
    split at h
    · rename_i he
      obtain ⟨v, m', h1, h2, h3⟩ := h
      refine ⟨v, m', [], by rw [he]; exact h3, ?_⟩
      unfold Did
      rw [if_pos he]
      exact ⟨h1, h2⟩
    · rename_i he
      obtain ⟨v, h1, h3⟩ := h
      refine ⟨v, m, [], by rw [if_neg he]; exact h3, ?_⟩
      unfold Did
      have ha : isAl o.op = false := by
        cases hop : o.op with
        | alloc T => exact absurd hop (n2 T)
        | box T x => exact absurd hop (n3 T x)
        | _ => rfl
      simp only [he, ha, Bool.false_eq_true, if_false]
      exact ⟨h1, trivial⟩

theorem PD_trace : ∀ (ord : List (Nat × Nat)) (hist : List M) (E : Env) (m : M), PD P full π k0 K ord hist E m →
    ∃ tr : List Ev, tr.map (fun e => (e.i, e.f)) = ord ∧ Lnk tr E m hist ∧ (∀ e ∈ tr, Fact P full π k0 e) ∧ K (k0 + full.length) (endE tr E) (endM tr m) := by
  intro ord
  induction ord with
  | nil => intro hist E m h; exact ⟨[], rfl, trivial, by simp, h⟩
  | cons p rest ih =>
    intro hist E m h
    obtain ⟨i, f⟩ := p
    simp only [PD] at h
    split at h
    · exact h.elim
    · rename_i o ho
      have skip : ∀ (hg : Gate full o.guard E false), PD P full π k0 K rest (if isEf o.op then m :: hist else hist) (putE o.dst (.lit undef) E) m →
          ∃ tr : List Ev, tr.map (fun e => (e.i, e.f)) = (i, f) :: rest ∧ Lnk tr E m hist ∧ (∀ e ∈ tr, Fact P full π k0 e) ∧ K (k0 + full.length) (endE tr E) (endM tr m) := by
        intro hg h'
        obtain ⟨tr, h1, h2, h3, h4⟩ := ih _ _ _ h'
        refine ⟨⟨i, f, o, false, .lit undef, E, m, m, hist, []⟩ :: tr, by simp [h1], ⟨rfl, rfl, rfl, h2⟩, fun e he => ?_, h4⟩
        rcases List.mem_cons.1 he with rfl | he
        · exact ⟨ho, hg, fun _ => ⟨rfl, rfl⟩, fun e => by cases e⟩
        · exact h3 e he
      have run : ∀ (hg : Gate full o.guard E true), dop P o.op o f ((k0 + i) :: π) hist E m (fun v m' hist' => PD P full π k0 K rest hist' (putE o.dst v E) m') →
          ∃ tr : List Ev, tr.map (fun e => (e.i, e.f)) = (i, f) :: rest ∧ Lnk tr E m hist ∧ (∀ e ∈ tr, Fact P full π k0 e) ∧ K (k0 + full.length) (endE tr E) (endM tr m) := by
        intro hg h'
        obtain ⟨v, m', ac, h1, hd⟩ := dop_did (i := i) h'
        obtain ⟨tr, h1, h2, h3, h4⟩ := ih _ _ _ h1
        refine ⟨⟨i, f, o, true, v, E, m, m', hist, ac⟩ :: tr, by simp [h1], ⟨rfl, rfl, rfl, h2⟩, fun e he => ?_, h4⟩
        rcases List.mem_cons.1 he with rfl | he
        · exact ⟨ho, hg, fun e => Bool.noConfusion e, fun _ => hd⟩
        · exact h3 e he
      split at h
      · rename_i hg
        exact run (by rw [hg]; rfl) h
      · rename_i j b hg
        split at h
        · exact h.elim
        · rename_i d hd
          split at h
          · rename_i t ht
            split at h
            · rename_i htb
              exact run (by rw [hg]; exact ⟨d, hd, .inl ⟨t, ht, by simp [htb]⟩⟩) h
            · rename_i htb
              exact skip (by rw [hg]; exact ⟨d, hd, .inl ⟨t, ht, by simp [htb]⟩⟩) h
          · rename_i vs ht
            exact skip (by rw [hg]; exact ⟨d, hd, .inr ⟨⟨vs, ht⟩, rfl⟩⟩) h
          · exact h.elim
end
end Go.Proofs.YtolhahlnccekcaaDoor.Abs
