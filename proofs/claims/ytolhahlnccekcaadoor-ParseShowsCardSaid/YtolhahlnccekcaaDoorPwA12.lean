/-
  Own helper theorems of no one function: an operation (stepOp), a region (POps), code (SW) and calls (SC), seen from above, with their rules.
-/
import Derived.Test.YtolhahlnccekcaaDoorPwA11
namespace Go.Proofs.YtolhahlnccekcaaDoor.Abs
open Go.RowKit

/-- what a call leaves -/
def PostC (q : Pa) (c : Conc) (m : M) (w : World) (R : V → M → Prop) (e : Ending) (w' : World) : Prop := ∃ x c' r m', e = .returned x ∧ R r m' ∧ Rep c' m' w' ∧ Ext q c m w c' m' w' ∧ CR c' [r] [x]
/-- a call of a function, seen from above: R is what must be of its result and of the memory -/
def SC (P : Program) (f : FuncId) (args : List V) (q : Pa) (m : M) (R : V → M → Prop) : Prop :=
  ∀ (c : Conc) (xs : List Value) (w : World), Rep c m w → CR c args xs → FreshU c q →
    ((callFunc f xs.toArray).run P w = .ok (.enter f xs.toArray) w ∧ Calls P f xs.toArray w (PostC q c m w R)) ∨ ∃ x w', (callFunc f xs.toArray).run P w = .ok (.value x) w' ∧ PostC q c m w R (.returned x) w'
theorem PostC.mono {q : Pa} {c : Conc} {m : M} {w : World} {R R' : V → M → Prop} {e : Ending} {w' : World} (h : PostC q c m w R e w') (hr : ∀ r m', R r m' → R' r m') : PostC q c m w R' e w' := by
  obtain ⟨x, c', r, m', e, hR, k⟩ := h
  exact ⟨x, c', r, m', e, hr _ _ hR, k⟩
theorem SC.mono {P : Program} {f : FuncId} {args : List V} {q : Pa} {m : M} {R R' : V → M → Prop} (h : SC P f args q m R) (hr : ∀ r m', R r m' → R' r m') : SC P f args q m R' := by
  intro c xs w h1 h2 h3
  rcases h c xs w h1 h2 h3 with ⟨k1, k2⟩ | ⟨x, w', k1, k2⟩
  · exact .inl ⟨k1, k2.mono fun _ _ k => k.mono hr⟩
  · exact .inr ⟨x, w', k1, k2.mono hr⟩

def scall (P : Program) (cl : Call) (q : Pa) (E : Env) (m : M) (C : V → M → Prop) : Prop :=
  match cl.callee with
  | .value f => (match ev m E f with | .fn (.func g) first captured => SC P g (first ++ cl.args.toList.map (ev m E) ++ captured) q m C | _ => False)
  | .builtin .len => (match cl.argTypes[0]?, cl.args.toList with | some T, [x] => slen P T (ev m E x) (fun v => C v m) | _, _ => False)
  | .builtin .min => (match cl.args.toList with | [x, y] => sminmax false (ev m E x) (ev m E y) (fun v => C v m) | _ => False)
  | .builtin .max => (match cl.args.toList with | [x, y] => sminmax true (ev m E x) (ev m E y) (fun v => C v m) | _ => False)
  | .builtin .append => (match cl.argTypes.toList, cl.args.toList with | [t, u], [s, x] => sappend P q m t u (ev m E s) (ev m E x) C | _, _ => False)
  | _ => False

def stepOp (P : Program) (o : Oper) (q : Pa) (E : Env) (m : M) (C : V → M → Prop) : Prop :=
  match o.op with
  | .move x => C (ev m E x) m
  | .assign x => C (ev m E x) m
  | .pick t x y => (match ev m E t with | .lit (.bool b) => C (if b then ev m E x else ev m E y) m | _ => False)
  | .alloc T => (match zcells P T with | some zs => C (.ptr q 0) (m.set q (zs.map V.raw0)) | none => False)
  | .box _ x => (ev m E x).cellsOk = true ∧ C (.ptr q 0) (m.set q ((ev m E x).cells.map V.raw0))
  | .build T ps => sbuild P T (ps.toList.map fun p => (p.1, ev m E p.2)) (fun v => C v m)
  | .buildSlice T n ps => sbuildSlice P T n (ps.toList.map fun p => (p.1, ev m E p.2)) (fun v => C v m)
  | .load T x => sload P m T (ev m E x) (fun v => C v m)
  | .store T a x => sstore P m T (ev m E a) (ev m E x) (fun m' => C (.lit undef) m')
  | .nilCheck x => (match ev m E x with | .ptr id off => C (.ptr id off) m | .eptr rows i off => C (.eptr rows i off) m | _ => False)
  | .binOp op T x y _ => sbin P op T x y (ev m E x) (ev m E y) (fun v => C v m)
  | .unOp op _ x => sun op (ev m E x) (fun v => C v m)
  | .convert s d x => sconv P s d (ev m E x) (fun v => C v m)
  | .makeFunc f xs ys => C (.fn f (xs.toList.map (ev m E)) (ys.toList.map (ev m E))) m
  | .slice T x lo hi none => sslice P T (ev m E x) (lo.map (ev m E)) (hi.map (ev m E)) (fun v => C v m)
  | .fieldAddr T x f => sfieldA P T f (ev m E x) (fun v => C v m)
  | .field T x f => sfield P T f (ev m E x) (fun v => C v m)
  | .indexAddr T x i => sindexA P T (ev m E x) (ev m E i) (fun v => C v m)
  | .index T x i => sindex P T (ev m E x) (ev m E i) (fun v => C v m)
  | .extract t i => (match ev m E t with | .tup vs => (match vs[i]? with | some v => C v m | none => False) | _ => False)
  | .call cl => scall P cl q E m C
  | _ => False

section
variable {P : Program} {c c' : Conc} {m m' : M} {w w' : World} {E : Env} {a : Act} {N : Nat}

theorem evs_ok (h : EnvOk c E a N) (hR : Rep c m w) (xs : List Operand) : CR c (xs.map (ev m E)) (xs.map a.eval) := by
  induction xs with
  | nil => exact .nil
  | cons x xs ih => exact (h.ev hR x).cons ih
theorem evps_ok (h : EnvOk c E a N) (hR : Rep c m w) (ps : List (Nat × Operand)) : CP c (ps.map fun p => (p.1, ev m E p.2)) (ps.map fun p => (p.1, a.eval p.2)) := by
  induction ps with
  | nil => exact .nil
  | cons p ps ih => exact .cons (h.ev hR p.2) ih

/-- what an operation leaves -/
def Post1 (q : Pa) (N : Nat) (o : Oper) (c : Conc) (E : Env) (m : M) (w : World) (a : Act) (C : V → M → Prop) (a' : Act) (w' : World) : Prop :=
  ∃ c' v m', C v m' ∧ Rep c' m' w' ∧ Ext q c m w c' m' w' ∧ EnvOk c' (putE o.dst v E) a' N ∧ a'.defers = a.defers
theorem put_defers (a : Act) (d : Option Nat) (v : Value) : (a.put d v).defers = a.defers := by cases d <;> rfl
theorem post_value {q : Pa} {o : Oper} {C : V → M → Prop} {Q : Exit → Act → World → Prop} (hE : EnvOk c E a N) (hd : ∀ d, o.dst = some d → d < N) {x : Value} {v : V} (hrun : (execOp a.eval o).run P w = .ok (.value x) w') (hC : C v m')
    (hR : Rep c' m' w') (hX : Ext q c m w c' m' w') (hv : CR c' [v] [x]) : o.wp P a w (Post1 q N o c E m w a C) Q := by
  unfold Oper.wp
  rw [hrun]
  exact ⟨c', v, m', hC, hR, hX, (hE.mono hX.le).put hv hd, put_defers _ _ _⟩

theorem stepOp_ok {o : Oper} {q : Pa} {C : V → M → Prop} (hs : stepOp P o q E m C) (h : Rep c m w) (hE : EnvOk c E a N) (hf : FreshU c q) (hd : ∀ d, o.dst = some d → d < N) (Q : Exit → Act → World → Prop) : o.wp P a w (Post1 q N o c E m w a C) Q := by
  obtain ⟨dst, op, ty, pos, after, guard⟩ := o
  have pure1 : ∀ (s : Sem Value), (execOp a.eval ⟨dst, op, ty, pos, after, guard⟩).run P w = (do pure (.value (← s)) : Sem Next).run P w → (∃ r, C r m ∧ ∃ z, s.run P w = .ok z w ∧ CR c [r] [z]) → Oper.wp P ⟨dst, op, ty, pos, after, guard⟩ a w (Post1 q N ⟨dst, op, ty, pos, after, guard⟩ c E m w a C) Q := by
    rintro s he ⟨r, hC, z, hz, hr⟩
    exact post_value hE hd (by rw [he, Sem.run_bind, hz]; rfl) hC h (.refl q c m w) hr
  cases op with
  | move x => exact post_value hE hd rfl hs h (.refl q c m w) (hE.ev h x)
  | assign x => exact post_value hE hd rfl hs h (.refl q c m w) (hE.ev h x)
  | pick t x y =>
    simp only [stepOp] at hs
    split at hs
    · rename_i b hb
      have ht := hE.ev h t
      rw [hb] at ht
      have ht' := ht.inv_lit
      cases b with
      | false => exact post_value hE hd (by simp [execOp, ht', asBool]) hs h (.refl q c m w) (hE.ev h y)
      | true => exact post_value hE hd (by simp [execOp, ht', asBool]) hs h (.refl q c m w) (hE.ev h x)
    · exact hs.elim
  | alloc T =>
    simp only [stepOp] at hs
    split at hs
    · rename_i zs hz
      obtain ⟨z, hz1, hz2, hz3⟩ := zcells_ok hz c
      obtain ⟨g1, g2⟩ := h.new (q := q) hf.at_ hz2 hz3 T
      refine post_value (x := .pointer (some ⟨w.heap.size, 0, none⟩)) hE hd ?_ hs g1 g2 (.ptr ?_ .nil)
      · simp [execOp, Instr.alloc, hz1 w, newVar, newRow]
      · show (if q = q then some w.heap.size else c.ρ q) = _
        rw [if_pos rfl]
    · exact hs.elim
  | box T x =>
    simp only [stepOp] at hs
    obtain ⟨ho, hC⟩ := hs
    obtain ⟨k1, k2⟩ := cells_ok (hE.ev h x) ho
    obtain ⟨g1, g2⟩ := h.new (q := q) hf.at_ k1 k2 T
    refine post_value (x := .pointer (some ⟨w.heap.size, 0, none⟩)) hE hd ?_ hC g1 g2 (.ptr ?_ .nil)
    · simp [execOp, Instr.box, newVar, newRow]
    · show (if q = q then some w.heap.size else c.ρ q) = _
      rw [if_pos rfl]
  | build T ps =>
    simp only [stepOp] at hs
    obtain ⟨r, hC, z, hz, hr⟩ := sbuild_ok (P := P) hs (qs := ps.map fun (i, x) => (i, a.eval x)) (by simpa using evps_ok hE h ps.toList) w
    exact pure1 _ rfl ⟨r, hC, z, hz, hr⟩
  | buildSlice T n ps =>
    simp only [stepOp] at hs
    obtain ⟨r, hC, cells, e, hu, hrun, hnew⟩ := sbuildSlice_ok (P := P) hs h q (qs := ps.map fun (i, x) => (i, a.eval x)) (by simpa using evps_ok hE h ps.toList)
    obtain ⟨c', g1, g2, g3⟩ := hnew (0, 0)
    refine post_value hE hd ?_ hC g1 g2 g3
    show Sem.run P (do pure (Next.value (← Instr.buildSlice T n (ps.map fun (i, x) => (i, a.eval x))))) w = _
    rw [Sem.run_bind, hrun]; rfl
  | load T x =>
    simp only [stepOp] at hs
    exact pure1 _ rfl (sload_ok hs h (hE.ev h x))
  | store T x y =>
    simp only [stepOp] at hs
    obtain ⟨m', hC, c', w', hrun, g1, g2⟩ := sstore_ok (P := P) hs h q (hE.ev h x) (hE.ev h y)
    unfold Oper.wp
    have he : (execOp a.eval ⟨dst, .store T x y, ty, pos, after, guard⟩).run P w = .ok .skip w' := by
      show Sem.run P (do Instr.storeAt T (a.eval x) (a.eval y); pure Next.skip) w = _
      rw [Sem.run_bind, hrun]; rfl
    rw [he]
    exact ⟨c', .lit undef, m', hC, g1, g2, (hE.mono g2.le).put (.lit .nil) hd, put_defers _ _ _⟩
  | nilCheck x =>
    simp only [stepOp] at hs
    split at hs
    · rename_i id off hv
      have hx := hE.ev h x
      rw [hv] at hx
      obtain ⟨b, hb, he⟩ := hx.inv_ptr
      exact post_value (x := .pointer (some ⟨b, off, none⟩)) hE hd (by simp [execOp, he]) hs h (.refl q c m w) (by rw [he] at hx; exact hx)
    · rename_i rows i off hv
      have hx := hE.ev h x
      rw [hv] at hx
      obtain ⟨b, o, sz, es, he, _⟩ := hx.inv_eptr
      exact post_value (x := .pointer (some ⟨b, o + i * sz + off, none⟩)) hE hd (by simp [execOp, he]) hs h (.refl q c m w) (by rw [he] at hx; exact hx)
    · exact hs.elim
  | binOp op T x y yT =>
    simp only [stepOp] at hs
    exact pure1 _ rfl (sbin_ok hs (hE.ev h x) (hE.ev h y) w)
  | unOp op T x =>
    simp only [stepOp] at hs
    exact pure1 _ rfl (sun_ok hs (hE.ev h x) w)
  | convert s d x =>
    simp only [stepOp] at hs
    obtain ⟨r, hC, c', z, w', hrun, g1, g2, g3⟩ := sconv_ok hs h q (hE.ev h x)
    refine post_value hE hd ?_ hC g1 g2 g3
    show Sem.run P (do pure (Next.value (← convert s d (a.eval x)))) w = _
    rw [Sem.run_bind, hrun]; rfl
  | makeFunc f xs ys =>
    simp only [stepOp] at hs
    refine post_value (x := .func f (xs.map a.eval) (ys.map a.eval)) hE hd rfl hs h (.refl q c m w) ?_
    have := CR.fn (f := f) (evs_ok hE h xs.toList) (evs_ok hE h ys.toList) .nil
    rw [arr_map a.eval xs, arr_map a.eval ys]; exact this
  | slice T x lo hi mx =>
    cases mx with
    | some _ => exact hs.elim
    | none =>
      simp only [stepOp] at hs
      refine pure1 _ rfl (sslice_ok (lo' := lo.map a.eval) (hi' := hi.map a.eval) hs (hE.ev h x) ?_ ?_ ?_ ?_ w)
      · intro v hv; cases lo with
        | none => cases hv
        | some l => injection hv with hv; subst hv; exact ⟨_, rfl, hE.ev h l⟩
      · intro hv; cases lo with
        | none => rfl
        | some l => cases hv
      · intro v hv; cases hi with
        | none => cases hv
        | some l => injection hv with hv; subst hv; exact ⟨_, rfl, hE.ev h l⟩
      · intro hv; cases hi with
        | none => rfl
        | some l => cases hv
  | fieldAddr T x f =>
    simp only [stepOp] at hs
    exact pure1 _ rfl (sfieldA_ok hs (hE.ev h x) w)
  | field T x f =>
    simp only [stepOp] at hs
    exact pure1 _ rfl (sfield_ok hs (hE.ev h x) w)
  | indexAddr T x i =>
    simp only [stepOp] at hs
    exact pure1 _ rfl (sindexA_ok hs (hE.ev h x) (hE.ev h i) w)
  | index T x i =>
    simp only [stepOp] at hs
    exact pure1 _ rfl (sindex_ok hs (hE.ev h x) (hE.ev h i) w)
  | extract t i =>
    simp only [stepOp] at hs
    split at hs
    · rename_i vs hv
      split at hs
      · rename_i v hvi
        have ht := hE.ev h t
        rw [hv] at ht
        obtain ⟨xs, he, k⟩ := ht.inv_tup
        obtain ⟨y, hy, k2⟩ := k.get hvi
        exact post_value (x := y) hE hd (by simp [execOp, Instr.extract, he, hy]) hs h (.refl q c m w) k2
      · exact hs.elim
    · exact hs.elim
  | call cl =>
    obtain ⟨callee, args, ats⟩ := cl
    simp only [stepOp, scall] at hs
    split at hs
    · rename_i f
      split at hs
      · rename_i g first captured hv
        have hx := hE.ev h f
        rw [hv] at hx
        obtain ⟨xs, ys, he, k1, k2⟩ := hx.inv_fn
        have hargs := (k1.append (evs_ok hE h args.toList)).append k2
        have hx0 : (execOp a.eval ⟨dst, .call ⟨.value f, args, ats⟩, ty, pos, after, guard⟩).run P w = (callFunc g (xs ++ args.toList.map a.eval ++ ys).toArray).run P w := by
          simp only [execOp, resolve, he, Deferred.ofValue, Sem.run_bind, Sem.run_pure, Result.andThen_ok, invoke]
          congr 2
          apply Array.ext'
          simp
        rcases hs c _ w h hargs hf with ⟨hen, hcall⟩ | ⟨z, w', hval, x, c', r, m', e1, hC, g1, g2, g3⟩
        · unfold Oper.wp
          rw [hx0, hen]
          refine hcall.mono fun e w' ⟨x, c', r, m', e1, hC, g1, g2, g3⟩ => ?_
          subst e1
          exact ⟨c', r, m', hC, g1, g2, (hE.mono g2.le).put g3 hd, put_defers _ _ _⟩
        · injection e1 with e1
          subst e1
          exact post_value hE hd (by rw [hx0, hval]) hC g1 g2 g3
      · exact hs.elim
    · split at hs
      · rename_i T x hT hx
        obtain rfl : args = #[x] := by cases args; simp_all
        refine pure1 (Builtin.len_ ats ty #[a.eval x]) ?_ (slen_ok hs (hE.ev h x) ats hT ty w)
        simp only [execOp, resolve, invoke, builtin, Sem.run_bind, Sem.run_pure, Result.andThen_ok, List.map_toArray, List.map_cons, List.map_nil]
      · exact hs.elim
    · split at hs
      · rename_i x y hx
        obtain rfl : args = #[x, y] := by cases args; simp_all
        exact pure1 (Builtin.min_ ats ty #[a.eval x, a.eval y]) (by simp only [execOp, resolve, invoke, builtin, Sem.run_bind, Sem.run_pure, Result.andThen_ok, List.map_toArray, List.map_cons, List.map_nil]) (smin_ok hs (hE.ev h x) (hE.ev h y) ats ty w)
      · exact hs.elim
    · split at hs
      · rename_i x y hx
        obtain rfl : args = #[x, y] := by cases args; simp_all
        exact pure1 (Builtin.max_ ats ty #[a.eval x, a.eval y]) (by simp only [execOp, resolve, invoke, builtin, Sem.run_bind, Sem.run_pure, Result.andThen_ok, List.map_toArray, List.map_cons, List.map_nil]) (smax_ok hs (hE.ev h x) (hE.ev h y) ats ty w)
      · exact hs.elim
    · split at hs
      · rename_i t u s x ht hx
        obtain rfl : args = #[s, x] := by cases args; simp_all
        obtain rfl : ats = #[t, u] := by cases ats; simp_all
        obtain ⟨r, m', hC, c', z, w', hrun, g1, g2, g3⟩ := sappend_ok hs h hf.at_ (hE.ev h s) (hE.ev h x) ty
        refine post_value hE hd ?_ hC g1 g2 g3
        show Sem.run P (do let d ← resolve a.eval ⟨.builtin .append, #[s, x], #[t, u]⟩ ty; invoke d.target d.args) w = _
        simp only [resolve, invoke, builtin, Sem.run_bind, Sem.run_pure, Result.andThen_ok, List.map_toArray, List.map_cons, List.map_nil, hrun]
      · exact hs.elim
    · exact hs.elim
  | _ => exact hs.elim

/-! ### a region -/
def POps (P : Program) (full : List Oper) (π : Pa) (K : Nat → Env → M → Prop) : List Oper → Nat → Env → M → Prop
  | [], k, E, m => K k E m
  | o :: os, k, E, m =>
    match o.guard with
    | none => stepOp P o (k :: π) E m (fun v m' => POps P full π K os (k + 1) (putE o.dst v E) m')
    | some (j, b) =>
      match (full[j]?).bind (·.dst) with
      | some d =>
        (match E d with
         | .lit (.bool t) => if t = b then stepOp P o (k :: π) E m (fun v m' => POps P full π K os (k + 1) (putE o.dst v E) m') else POps P full π K os (k + 1) (putE o.dst (.lit undef) E) m
         | .lit (.tuple _) => POps P full π K os (k + 1) (putE o.dst (.lit undef) E) m
         | _ => False)
      | none => False

/-- what a piece of code leaves -/
def PostW (π : Pa) (N : Nat) (W : Nat → Bool) (E0 : Env) (c : Conc) (m : M) (w : World) (a : Act) (Q : Nat → Env → M → Prop) (a' : Act) (w' : World) : Prop :=
  ∃ c' k' E' m', Q k' E' m' ∧ Rep c' m' w' ∧ Ext π c m w c' m' w' ∧ EnvOk c' E' a' N ∧ FreshK c' π k' ∧ a'.defers = a.defers ∧ ∀ t, W t = false → E' t = E0 t
def fitsOps (N : Nat) (ops : List Oper) : Bool := ops.all fun o => match o.dst with | some d => decide (d < N) | none => true
theorem POps_ok {full : Array Oper} {π : Pa} {K : Nat → Env → M → Prop} {Q : Exit → Act → World → Prop} {c0 : Conc} {m0 : M} {w0 : World} {a0 : Act} {W : Nat → Bool} {E0 : Env} (hQ : ∀ a' w', PostW π N W E0 c0 m0 w0 a0 K a' w' → Q .normal a' w') :
    ∀ (ops : List Oper) (k : Nat) (E : Env) (c : Conc) (m : M) (w : World) (a : Act), POps P full.toList π K ops k E m → fitsOps N ops = true → Rep c m w → EnvOk c E a N → FreshK c π k → Ext π c0 m0 w0 c m w → a.defers = a0.defers → (∀ t, W t = false → E t = E0 t) → (∀ o ∈ ops, ∀ d, o.dst = some d → W d = true) → wpList P full Q ops a w := by
  intro ops
  induction ops with
  | nil => intro k E c m w a hs _ hR hE hF hX hd hU _; exact hQ a w ⟨c, k, E, m, hs, hR, hX, hE, hF, hd, hU⟩
  | cons o os ih =>
    intro k E c m w a hs hfit hR hE hF hX hd hU hW
    have hU' : ∀ v t, W t = false → putE o.dst v E t = E0 t := by
      intro v t ht
      cases hdo : o.dst with
      | none => exact hU t ht
      | some d =>
        have := hW o (by simp) d hdo
        show (if t = d then v else E t) = E0 t
        rw [if_neg (by rintro rfl; rw [ht] at this; cases this)]; exact hU t ht
    have hW' : ∀ o' ∈ os, ∀ d, o'.dst = some d → W d = true := fun o' ho' => hW o' (by simp [ho'])
    simp only [fitsOps, List.all_cons, Bool.and_eq_true] at hfit
    have hfo : ∀ d, o.dst = some d → d < N := by
      intro d h; have := hfit.1; rw [h] at this; simpa using this
    have run : Region.wanted o (yielded full a.tmps) = true → stepOp P o (k :: π) E m (fun v m' => POps P full.toList π K os (k + 1) (putE o.dst v E) m') → wpList P full Q (o :: os) a w := by
      intro hw hst
      refine BigFrame.wpList_want hw fun K' hK' => ?_
      refine Oper.wp_mono ?_ (stepOp_ok (N := N) hst hR hE hF.at_ hfo Q)
      rintro a' w' ⟨c', v, m', hC, h1, h2, h3, h4⟩
      exact hK' a' w' (ih _ _ c' m' w' a' hC hfit.2 h1 h3 (h2.freshK hF) (hX.trans h2.up) (h4.trans hd) (hU' _) hW')
    simp only [POps] at hs
    split at hs
    · rename_i hg
      exact run (by simp [Region.wanted, hg]) hs
    · rename_i j b hg
      split at hs
      · rename_i d hdst
        split at hs
        · rename_i t ht
          have hy : yielded full a.tmps j = some t := by
            have hv := hE.at_ d
            rw [ht] at hv
            have hv' := hv.inv_lit
            unfold yielded
            have : (full[j]?).bind (·.dst) = some d := by simpa using hdst
            rw [this]
            simp only [Option.bind_some]
            have hdl : a.tmps[d]? = some (.bool t) := by
              rw [Array.getD_eq_getD_getElem?] at hv'
              cases hq : a.tmps[d]? with
              | none => rw [hq] at hv'; simp [undef] at hv'
              | some u => rw [hq] at hv'; simp at hv'; rw [hv']
            rw [hdl]
          split at hs
          · rename_i hb
            exact run (by simp [Region.wanted, hg, hy, hb]) hs
          · rename_i hb
            have hw : Region.wanted o (yielded full a.tmps) = false := by simp [Region.wanted, hg, hy, hb]
            unfold wpList
            rw [if_neg (by simp [hw])]
            exact ih _ _ c m w _ hs hfit.2 hR (hE.put (.lit .nil) hfo) (hF.le (by omega)) hX ((put_defers _ _ _).trans hd) (hU' _) hW'
        · rename_i vs ht
          have hy : yielded full a.tmps j = none := by
            have hv := hE.at_ d
            rw [ht] at hv
            have hv' := hv.inv_lit
            unfold yielded
            have : (full[j]?).bind (·.dst) = some d := by simpa using hdst
            rw [this]
            simp only [Option.bind_some]
            rw [Array.getD_eq_getD_getElem?] at hv'
            cases hq : a.tmps[d]? with
            | none => rfl
            | some u => rw [hq] at hv'; simp only [Option.getD_some] at hv'; rw [hv']
          have hw : Region.wanted o (yielded full a.tmps) = false := by simp [Region.wanted, hg, hy]
          unfold wpList
          rw [if_neg (by simp [hw])]
          exact ih _ _ c m w _ hs hfit.2 hR (hE.put (.lit .nil) hfo) (hF.le (by omega)) hX ((put_defers _ _ _).trans hd) (hU' _) hW'
        · exact hs.elim
      · exact hs.elim
end
end Go.Proofs.YtolhahlnccekcaaDoor.Abs
