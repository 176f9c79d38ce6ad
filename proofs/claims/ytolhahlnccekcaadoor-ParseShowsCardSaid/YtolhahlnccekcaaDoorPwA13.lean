/-
  Own helper theorems of no one function: the rules of code (SW) and of calls (SC), seen from above.
-/
import Derived.Test.YtolhahlnccekcaaDoorPwA12
namespace Go.Proofs.YtolhahlnccekcaaDoor.Abs
open Go.RowKit

def fits (N : Nat) : Code → Bool
  | .region _ ops _ => fitsOps N ops.toList
  | .seq a b => fits N a && fits N b
  | .cond _ a b => fits N a && fits N b
  | .block _ a => fits N a
  | .loop a => fits N a
  | .scope a => fits N a
  | .rangeFunc _ _ _ _ => false
  | _ => true
/-- which slots a piece of code may write -/
def wr : Code → Nat → Bool
  | .region _ ops _, t => ops.toList.any fun o => o.dst == some t
  | .seq a b, t => wr a t || wr b t
  | .cond _ a b, t => wr a t || wr b t
  | .block _ a, t => wr a t
  | .loop a, t => wr a t
  | .scope a, t => wr a t
  | .rangeFunc _ _ _ _, _ => true
  | _, _ => false

/-- a piece of code, seen from above: Q is what must be of where it leaves to, of the variables and of the memory -/
def SW (P : Program) (N : Nat) (π : Pa) (code : Code) (k : Nat) (E : Env) (m : M) (Q : Exit → Nat → Env → M → Prop) : Prop :=
  fits N code = true → ∀ (c : Conc) (a : Act) (w : World), Rep c m w → EnvOk c E a N → FreshK c π k → code.wp P (fun e a' w' => PostW π N (wr code) E c m w a (Q e) a' w') a w

def thenQ (n : Nat → Env → M → Prop) (Q : Exit → Nat → Env → M → Prop) : Exit → Nat → Env → M → Prop
  | .normal => n
  | .exit i => Q (.exit i)
  | .goto l => Q (.goto l)
  | .ret => Q .ret
  | .panic ch => Q (.panic ch)
  | .outgrown => Q .outgrown
def blockQ (id : Nat) (Q : Exit → Nat → Env → M → Prop) : Exit → Nat → Env → M → Prop
  | .exit i => if i = id then Q .normal else Q (.exit i)
  | .normal => Q .normal
  | .goto l => Q (.goto l)
  | .ret => Q .ret
  | .panic ch => Q (.panic ch)
  | .outgrown => Q .outgrown

section
variable {P : Program} {N : Nat} {π : Pa} {k : Nat} {E : Env} {m : M} {Q : Exit → Nat → Env → M → Prop}

theorem PostW.mono {W W' : Nat → Bool} {E0 : Env} {c : Conc} {w : World} {a a' : Act} {w' : World} {R R' : Nat → Env → M → Prop} (h : PostW π N W E0 c m w a R a' w') (hR : ∀ k E m, R k E m → R' k E m) (hW : ∀ t, W' t = false → W t = false) : PostW π N W' E0 c m w a R' a' w' := by
  obtain ⟨c', k', E', m', h1, h2, h3, h4, h5, h6, h7⟩ := h
  exact ⟨c', k', E', m', hR _ _ _ h1, h2, h3, h4, h5, h6, fun t ht => h7 t (hW t ht)⟩
theorem PostW.here {W : Nat → Bool} {c : Conc} {w : World} {a : Act} {R : Nat → Env → M → Prop} (h : R k E m) (hR : Rep c m w) (hE : EnvOk c E a N) (hF : FreshK c π k) : PostW π N W E c m w a R a w :=
  ⟨c, k, E, m, h, hR, .refl π c m w, hE, hF, rfl, fun _ _ => rfl⟩
theorem PostW.trans {W W' W'' : Nat → Bool} {E0 E1 : Env} {c c1 : Conc} {m1 : M} {w w1 w2 : World} {a a1 a2 : Act} {R : Nat → Env → M → Prop} (h : PostW π N W E1 c1 m1 w1 a1 R a2 w2) (hX : Ext π c m w c1 m1 w1) (hd : a1.defers = a.defers) (h1 : ∀ t, W' t = false → E1 t = E0 t)
    (hW : ∀ t, W'' t = false → W t = false ∧ W' t = false) : PostW π N W'' E0 c m w a R a2 w2 := by
  obtain ⟨c', k', E', m', g1, g2, g3, g4, g5, g6, g7⟩ := h
  exact ⟨c', k', E', m', g1, g2, hX.trans g3, g4, g5, g6.trans hd, fun t ht => (g7 t (hW t ht).1).trans (h1 t (hW t ht).2)⟩

theorem SW_mono {code : Code} {Q' : Exit → Nat → Env → M → Prop} (h : SW P N π code k E m Q) (hq : ∀ e k E m, Q e k E m → Q' e k E m) : SW P N π code k E m Q' :=
  fun hf c a w h1 h2 h3 => wp_mono (h hf c a w h1 h2 h3) fun e _ _ hp => hp.mono (hq e) (fun _ x => x)
theorem SW_skip (h : Q .normal k E m) : SW P N π .skip k E m Q := fun _ _ _ _ h1 h2 h3 => wp_skip (.here h h1 h2 h3)
theorem SW_exit {id : Nat} (h : Q (.exit id) k E m) : SW P N π (.exit id) k E m Q := fun _ _ _ _ h1 h2 h3 => wp_exit (.here h h1 h2 h3)
theorem SW_ret (h : Q .ret k E m) : SW P N π .ret k E m Q := fun _ _ _ _ h1 h2 h3 => wp_ret (.here h h1 h2 h3)
theorem SW_seq {x y : Code} (h : SW P N π x k E m (thenQ (fun k E m => SW P N π y k E m Q) Q)) : SW P N π (.seq x y) k E m Q := by
  intro hf c a w h1 h2 h3
  simp only [fits, Bool.and_eq_true] at hf
  have hW : ∀ t, wr (.seq x y) t = false → wr x t = false ∧ wr y t = false := by intro t ht; simpa [wr] using ht
  refine wp_seq (wp_mono (h hf.1 c a w h1 h2 h3) ?_)
  intro e a' w' hp
  cases e with
  | normal =>
    obtain ⟨c', k', E', m', g1, g2, g3, g4, g5, g6, g7⟩ := hp
    show y.wp P _ a' w'
    refine wp_mono (g1 hf.2 c' a' w' g2 g4 g5) fun e2 a2 w2 hp2 => ?_
    exact hp2.trans g3 g6 g7 (fun t ht => ⟨(hW t ht).2, (hW t ht).1⟩)
  | _ => exact hp.mono (fun _ _ _ x => x) (fun t ht => (hW t ht).1)
theorem SW_cond {x y : Code} {t : Operand} (b : Bool) (hb : ev m E t = .lit (.bool b)) (h : SW P N π (if b then x else y) k E m Q) : SW P N π (.cond t x y) k E m Q := by
  intro hf c a w h1 h2 h3
  simp only [fits, Bool.and_eq_true] at hf
  have ht := h2.ev h1 t
  rw [hb] at ht
  refine wp_cond (t := b) ht.inv_lit ?_
  cases b with
  | true => exact wp_mono (h hf.1 c a w h1 h2 h3) fun e _ _ hp => hp.mono (fun _ _ _ x => x) (fun t ht => by simp [wr] at ht; exact ht.1)
  | false => exact wp_mono (h hf.2 c a w h1 h2 h3) fun e _ _ hp => hp.mono (fun _ _ _ x => x) (fun t ht => by simp [wr] at ht; exact ht.2)
theorem SW_if {x y : Code} {t : Operand} (b : Bool) (hb : ev m E t = .lit (.bool b)) (ht : b = true → SW P N π x k E m Q) (hf : b = false → SW P N π y k E m Q) : SW P N π (.cond t x y) k E m Q := by
  refine SW_cond b hb ?_
  cases b with
  | true => exact ht rfl
  | false => exact hf rfl
theorem SW_block {id : Nat} {x : Code} (h : SW P N π x k E m (blockQ id Q)) : SW P N π (.block id x) k E m Q := by
  intro hf c a w h1 h2 h3
  refine wp_block (wp_mono (h hf c a w h1 h2 h3) ?_)
  intro e a' w' hp
  cases e with
  | exit i =>
    show if i = id then _ else _
    by_cases hi : i = id
    · rw [if_pos hi]
      have hp' : PostW π N (wr x) E c m w a (blockQ id Q (.exit i)) a' w' := hp
      simp only [blockQ, hi, if_true] at hp'
      exact hp'
    · rw [if_neg hi]
      have hp' : PostW π N (wr x) E c m w a (blockQ id Q (.exit i)) a' w' := hp
      simp only [blockQ, hi, if_false] at hp'
      exact hp'
  | _ => exact hp
theorem SW_region {id : Nat} {ops : Array Oper} (h : POps P ops.toList π (Q .normal) ops.toList k E m) : SW P N π (.region id ops false) k E m Q := by
  intro hf c a w h1 h2 h3
  refine wp_region_list ?_
  refine POps_ok (W := wr (.region id ops false)) (E0 := E) (c0 := c) (m0 := m) (w0 := w) (a0 := a) (fun a' w' hp => hp) ops.toList k E c m w a h hf h1 h2 h3 (.refl π c m w) rfl (fun _ _ => rfl) ?_
  intro o ho d hd
  simp only [wr, List.any_eq_true, beq_iff_eq]
  exact ⟨o, ho, hd⟩

/-- a loop: Inv is what holds at each round's head -/
theorem SW_loop {body : Code} (Inv : Env → M → Prop) (μ : Env → M → Nat) (h0 : Inv E m)
    (step : ∀ (i : Nat) (E' : Env) (m' : M), Inv E' m' → (∀ t, wr body t = false → E' t = E t) → SW P N (i :: k :: π) body 0 E' m' (fun e _ E2 m2 => match e with | .normal => Inv E2 m2 ∧ μ E2 m2 < μ E' m' | e => Q e (k + 1) E2 m2)) :
    SW P N π (.loop body) k E m Q := by
  intro hf c a w h1 h2 h3
  have hfr : ∀ {c1 : Conc} {m1 : M} {w1 : World}, Ext (k :: π) c m w c1 m1 w1 → FreshK c1 π (k + 1) := fun hx => hx.freshK h3
  refine wp_loop_rounds (μ E m + 1) ?_
  have key : ∀ (n i : Nat) (E1 : Env) (m1 : M) (c1 : Conc) (a1 : Act) (w1 : World), Inv E1 m1 → μ E1 m1 < n → Rep c1 m1 w1 → EnvOk c1 E1 a1 N → (∀ j, i ≤ j → FreshU c1 (j :: k :: π)) → Ext (k :: π) c m w c1 m1 w1 → a1.defers = a.defers → (∀ t, wr body t = false → E1 t = E t) →
      Code.rounds P body (fun e a' w' => PostW π N (wr body) E c m w a (Q e) a' w') n a1 w1 := by
    intro n
    induction n with
    | zero => intro i E1 m1 c1 a1 w1 _ hlt; omega
    | succ n ih =>
      intro i E1 m1 c1 a1 w1 hI hlt g1 g2 g3 g4 g5 g6
      rw [rounds_succ]
      have hb := step i E1 m1 hI g6 hf c1 a1 w1 g1 g2 (fun j _ id hid => g3 i (Nat.le_refl _) id (under_tail hid))
      refine wp_mono hb fun e a' w' hp => ?_
      obtain ⟨c2, k2, E2, m2, q1, q2, q3, q4, q5, q6, q7⟩ := hp
      have hX : Ext (k :: π) c m w c2 m2 w' := g4.trans q3.up
      have hU : ∀ t, wr body t = false → E2 t = E t := fun t ht => (q7 t ht).trans (g6 t ht)
      cases e with
      | normal =>
        refine ih (i + 1) E2 m2 c2 a' w' q1.1 (by have := q1.2; omega) q2 q4 ?_ hX (q6.trans g5) hU
        intro j hj id hid
        exact q3.fresh id (not_under hid (by omega)) (g3 j (by omega) id hid)
      | _ => exact ⟨c2, k + 1, E2, m2, q1, q2, hX.up, q4, hfr hX, q6.trans g5, hU⟩
  exact key (μ E m + 1) 0 E m c a w h0 (by omega) h1 h2 (fun j _ id hid => h3 k (Nat.le_refl _) id (under_tail hid)) (.refl _ c m w) rfl (fun _ _ => rfl)
end

/-! ### a function -/
/-- what is under a path becomes as it was -/
def M.back (q : Pa) (m m' : M) : M :=
  { blk := fun id => if q.isSuffixOf id then m.blk id else m'.blk id, ver := fun id => if q.isSuffixOf id then m.ver id else m'.ver id, tok := fun id => if q.isSuffixOf id then m.tok id else m'.tok id, gl := m'.gl }
theorem Blank.back {c : Conc} {m m' : M} {q id : Pa} (h : Blank c m' id) (hid : ¬ q <:+ id) : Blank c (m.back q m') id := by
  have hs : ¬ q.isSuffixOf id = true := fun e => hid (List.isSuffixOf_iff_suffix.1 e)
  refine ⟨?_, h.anon, h.cell, fun off => ?_, fun j => ?_⟩
  · show (if q.isSuffixOf id then m.blk id else m'.blk id) = none
    rw [if_neg hs]; exact h.blk
  · show (if q.isSuffixOf id then m.ver id else m'.ver id) off = 0
    rw [if_neg hs]; exact h.ver off
  · show (if q.isSuffixOf id then m.tok id else m'.tok id) j = false
    rw [if_neg hs]; exact h.tok j
theorem Rep.back {c c' : Conc} {m m' : M} {w w' : World} {q : Pa} (h : Rep c m w) (hf : FreshU c q) (h' : Rep c' m' w') : Rep c' (m.back q m') w' ∧ ∀ b, Owned c' (m.back q m') b → Owned c' m' b := by
  have hsub : ∀ id, q.isSuffixOf id = true → m.blk id = none ∧ (∀ off, m.ver id off = 0) ∧ ∀ j, m.tok id j = false := by
    intro id hid
    have hf' := hf id (List.isSuffixOf_iff_suffix.1 hid)
    exact ⟨h.fresh_blk hf', (h.ver0 id hf').1, (h.ver0 id hf').2⟩
  have hb : ∀ id vs, (m.back q m').blk id = some vs → q.isSuffixOf id = false ∧ m'.blk id = some vs := by
    intro id vs hv
    have hv' : (if q.isSuffixOf id then m.blk id else m'.blk id) = some vs := hv
    cases hs : q.isSuffixOf id with
    | true => rw [if_pos hs, (hsub id hs).1] at hv'; cases hv'
    | false => rw [if_neg (by simp [hs])] at hv'; exact ⟨rfl, hv'⟩
  have hbn : ∀ id, (m.back q m').blk id ≠ none → q.isSuffixOf id = false ∧ m'.blk id ≠ none := by
    intro id hid
    obtain ⟨vs, hv⟩ : ∃ vs, (m.back q m').blk id = some vs := by cases hx : (m.back q m').blk id with | none => exact absurd hx hid | some vs => exact ⟨vs, rfl⟩
    obtain ⟨h1, h2⟩ := hb id vs hv
    exact ⟨h1, by rw [h2]; simp⟩
  have hver : ∀ id, q.isSuffixOf id = false → (m.back q m').ver id = m'.ver id := by
    intro id hs
    show (if q.isSuffixOf id then m.ver id else m'.ver id) = _
    rw [if_neg (by simp [hs])]
  have hlive : ∀ s, liveB (m.back q m') s = true → liveB m' s = true := by
    intro s hl
    cases s with
    | anon i j =>
      have hl' : (if q.isSuffixOf i then m.tok i else m'.tok i) j = true := hl
      cases hs : q.isSuffixOf i with
      | true => rw [if_pos hs, (hsub i hs).2.2 j] at hl'; cases hl'
      | false => rw [if_neg (by simp [hs])] at hl'; exact hl'
    | cell i off v =>
      obtain ⟨h1, vs, rows, h2, h3⟩ := liveB_cell hl
      obtain ⟨h4, h5⟩ := hb i vs h2
      rw [hver i h4] at h1
      exact liveB_mk h1 h5 h3
  have hown : ∀ b, Owned c' (m.back q m') b → Owned c' m' b := by
    rintro b (⟨id, hid, hr⟩ | ⟨s, cap, sz, len, hl, hk⟩)
    · exact .inl ⟨id, (hbn id hid).2, hr⟩
    · exact .inr ⟨s, cap, sz, len, hlive s hl, hk⟩
  refine ⟨⟨h'.com, fun id vs hv => ?_, fun id id' b hi hi' => h'.inj id id' b (hbn id hi).2 (hbn id' hi').2, fun s b cap sz len hl hk => ?_, fun s s' b cap sz len cap' sz' len' hl hl' => h'.ownInj s s' b cap sz len cap' sz' len' (hlive s hl) (hlive s' hl'), fun id off v hi hv => ?_, h'.gl, fun id hid => ⟨fun off => ?_, fun j => ?_⟩, h'.base, fun b hl => ⟨(h'.lit b hl).1, (h'.lit b hl).2.1, fun ho => (h'.lit b hl).2.2 (hown b ho)⟩⟩, hown⟩
  · obtain ⟨h1, h2⟩ := hb id vs hv
    obtain ⟨b, cs, t, k1, k2, k3, k4, k5⟩ := h'.blk id vs h2
    exact ⟨b, cs, t, k1, k2, by rw [hver id h1]; exact k3, k4, k5⟩
  · obtain ⟨k1, k2, k3, k4⟩ := h'.own s b cap sz len (hlive s hl) hk
    exact ⟨k1, k2, fun id hid => k3 id (hbn id hid).2, k4⟩
  · obtain ⟨h1, h2⟩ := hbn id hi
    rw [hver id h1] at hv
    exact h'.ver id off v h2 hv
  · show (if q.isSuffixOf id then m.ver id else m'.ver id) off = 0
    split
    · rename_i hs; exact (hsub id hs).2.1 off
    · exact (h'.ver0 id hid).1 off
  · show (if q.isSuffixOf id then m.tok id else m'.tok id) j = false
    split
    · rename_i hs; exact (hsub id hs).2.2 j
    · exact (h'.ver0 id hid).2 j

def ini (args : List V) : Env := fun t => args.getD t (.lit undef)
theorem ini_ok {c : Conc} {args : List V} {xs : List Value} (h : CR c args xs) (N : Nat) : EnvOk c (ini args) { tmps := xs.toArray ++ Array.replicate (N - xs.length) undef, defers := [] } N := by
  refine ⟨by simp; omega, fun t => ?_⟩
  show CR c [args.getD t (.lit undef)] [(xs.toArray ++ Array.replicate (N - xs.length) undef).getD t undef]
  by_cases ht : t < args.length
  · have hx : t < xs.length := by rw [h.len]; exact ht
    obtain ⟨x, hx1, hx2⟩ := h.get (List.getElem?_eq_getElem ht)
    have e1 : args.getD t (.lit undef) = args[t] := by simp [List.getD, ht]
    have e2 : (xs.toArray ++ Array.replicate (N - xs.length) undef).getD t undef = x := by
      rw [List.getElem?_eq_getElem hx] at hx1
      injection hx1 with hx1
      rw [Array.getD_eq_getD_getElem?, Array.getElem?_append_left (by simpa using hx)]
      simp [hx, hx1]
    rw [e1, e2]; exact hx2
  · have hx : ¬ t < xs.length := by rw [h.len]; exact ht
    have e1 : args.getD t (.lit undef) = .lit undef := by simp [List.getD, ht]
    have e2 : (xs.toArray ++ Array.replicate (N - xs.length) undef).getD t undef = undef := by
      rw [Array.getD_eq_getD_getElem?, Array.getElem?_append_right (by simp; omega)]
      simp only [List.size_toArray, Array.getElem?_replicate]
      split <;> rfl
    rw [e1, e2]; exact .lit .nil

def resOne (P : Program) (E : Env) (m : M) (r : ResultVar) (C : V → Prop) : Prop :=
  match r with
  | .tmp t => C (E t)
  | .cell p T => sload P m T (E p) C
def resAll (P : Program) (E : Env) (m : M) : List ResultVar → (List V → Prop) → Prop
  | [], C => C []
  | r :: rs, C => resOne P E m r fun v => resAll P E m rs fun vs => C (v :: vs)
def resV (P : Program) (E : Env) (m : M) (rs : List ResultVar) (C : V → Prop) : Prop :=
  resAll P E m rs fun vs => match vs with | [v] => C v | vs => C (.tup vs)
section
variable {P : Program} {c : Conc} {m : M} {w : World} {E : Env} {a : Act} {N : Nat}
def resSem (tmps : Array Value) : ResultVar → Sem Value
  | .tmp t => pure (tmps.getD t undef)
  | .cell p t => do loadVar t (← asAddr (tmps.getD p undef))
theorem resOne_ok {r : ResultVar} {C : V → Prop} (hs : resOne P E m r C) (h : Rep c m w) (hE : EnvOk c E a N) : ∃ v, C v ∧ ∃ x, (resSem a.tmps r).run P w = .ok x w ∧ CR c [v] [x] := by
  cases r with
  | tmp t => exact ⟨_, hs, _, rfl, hE.at_ t⟩
  | cell p T =>
    have hs' : sload P m T (E p) C := hs
    obtain ⟨v, hC, z, hz, hr⟩ := sload_ok hs' h (hE.at_ p)
    refine ⟨v, hC, z, ?_, hr⟩
    have hp : ∃ b o, a.tmps.getD p undef = .pointer (some ⟨b, o, none⟩) := by
      cases hc : cellsAt m (E p) with
      | none => unfold sload at hs'; rw [hc] at hs'; exact hs'.elim
      | some vs =>
        obtain ⟨b, o, xs, he, _⟩ := cellsAt_ok h (hE.at_ p) hc
        exact ⟨b, o, he⟩
    obtain ⟨b, o, he⟩ := hp
    rw [he] at hz
    show (do loadVar T (← asAddr (a.tmps.getD p undef)) : Sem Value).run P w = _
    rw [he]
    simpa [Instr.loadAt, Instr.sureAddr, asAddr] using hz
theorem resAll_ok {rs : List ResultVar} : ∀ {C : List V → Prop}, resAll P E m rs C → Rep c m w → EnvOk c E a N → ∃ vs, C vs ∧ ∃ xs, (rs.mapM (resSem a.tmps)).run P w = .ok xs w ∧ CR c vs xs := by
  induction rs with
  | nil => intro C hs h hE; exact ⟨[], hs, [], rfl, .nil⟩
  | cons r rs ih =>
    intro C hs h hE
    obtain ⟨v, hs2, x, hx, hv⟩ := resOne_ok hs h hE
    obtain ⟨vs, hC, xs, hxs, hvs⟩ := ih hs2 h hE
    refine ⟨v :: vs, hC, x :: xs, ?_, hv.cons hvs⟩
    rw [List.mapM_cons]
    simp [hx, hxs]
theorem resV_ok {fn : Func} {C : V → Prop} (hs : resV P E m fn.results.toList C) (h : Rep c m w) (hE : EnvOk c E a N) : ∃ v, C v ∧ ∃ x, (results fn a.tmps).run P w = .ok x w ∧ CR c [v] [x] := by
  obtain ⟨vs, hC, xs, hxs, hvs⟩ := resAll_ok (C := fun vs => match vs with | [v] => C v | vs => C (.tup vs)) hs h hE
  have he : results fn a.tmps = (do
      let vs ← fn.results.mapM (resSem a.tmps)
      pure (if h : vs.size = 1 then vs[0] else .tuple vs)) := by
    unfold results
    congr 1
  have hr : (results fn a.tmps).run P w = .ok (if h : xs.toArray.size = 1 then xs.toArray[0] else .tuple xs.toArray) w := by
    rw [he]
    simp [Array.mapM_eq_mapM_toList, hxs]
  rw [hr]
  match vs, hC, hvs with
  | [v], hC, hvs => obtain ⟨x, rfl, hv⟩ := hvs.inv_one; exact ⟨v, hC, x, rfl, hv⟩
  | [], hC, hvs => rw [hvs.inv_nil]; exact ⟨_, hC, _, rfl, .tup .nil .nil⟩
  | v :: u :: vs, hC, hvs =>
    have hl := hvs.len
    refine ⟨_, hC, _, rfl, ?_⟩
    rw [dif_neg (by simp [hl])]
    exact .tup hvs .nil
end

theorem SC_of {P : Program} {f : FuncId} {fn : Func} {body : Code} {args : List V} {q : Pa} {m : M} {R : V → M → Prop} (hf : P.funcs[f]? = some fn) (hb : fn.body = some body) (hen : ∀ (xs : Array Value) (w : World), (callFunc f xs).run P w = .ok (.enter f xs) w)
    {N : Nat} (hN : fn.ntmps = N) (hfit : fits N body = true) {rs : List ResultVar} (hrs : fn.results.toList = rs) (wk : V → V) (hwk : ∀ (c : Conc) v x, CR c [v] [x] → CR c [wk v] [x])
    (h : SW P N q body 0 (ini args) m fun e _ E' m' => (e = .ret ∨ e = .normal) ∧ resV P E' m' rs fun r => R (wk r) (m.back q m')) : SC P f args q m R := by
  intro c xs w h1 h2 h3
  refine .inl ⟨hen _ w, ?_⟩
  subst hN hrs
  have hini := ini_ok h2 fn.ntmps
  refine calls_of_wp hf hb ?_
  rw [List.size_toArray]
  refine wp_mono (h hfit c _ w h1 hini h3.sub) ?_
  intro e a' w' hp
  obtain ⟨c', k', E', m', ⟨he, hres⟩, g2, g3, g4, g5, g6, g7⟩ := hp
  obtain ⟨v, hC, x, hx, hv⟩ := resV_ok hres g2 g4
  obtain ⟨hback, hown⟩ := h1.back h3 g2
  have hX : Ext q c m w c' (m.back q m') w' := ⟨g3.le, g3.os, g3.tape, g3.output, g3.size, g3.heap, g3.book, fun b hb ho => g3.own b hb (hown b ho), g3.fresh, fun id hid hb => (g3.keep id hid hb).back hid, g3.lits⟩
  have hdone : a'.defers = [] ∧ ∃ v, (results fn a'.tmps).run P w' = .ok v w' ∧ ∃ x c' r m', Ending.returned v = .returned x ∧ R r m' ∧ Rep c' m' w' ∧ Ext q c m w c' m' w' ∧ CR c' [r] [x] :=
    ⟨g6, x, hx, x, c', wk v, m.back q m', rfl, hC, hback, hX, hwk c' v x hv⟩
  rcases he with rfl | rfl
  · exact hdone
  · exact hdone
end Go.Proofs.YtolhahlnccekcaaDoor.Abs
