/-
  Own helper theorems of no one function: a region whose order is drawn comes, in any order, to what its trace says.
-/
import Derived.Test.YtolhahlnccekcaaDoorPwA17
import Derived.Orders
namespace Go.Proofs.YtolhahlnccekcaaDoor.Abs
open Go.RowKit

def ins (D : Nat → Bool) (k : Nat) : Nat → Bool := fun i => D i || i == k
def alD (D : Nat → Bool) (e : Ev) : Bool := e.al && D e.i
theorem ins_ne {D : Nat → Bool} {k i : Nat} (h : i ≠ k) : ins D k i = D i := by
  unfold ins
  rw [beq_eq_false_iff_ne.2 h, Bool.or_false]
theorem ins_self {D : Nat → Bool} {k : Nat} : ins D k k = true := by simp [ins]
theorem alD_ne {D : Nat → Bool} {k : Nat} {e : Ev} (h : e.i ≠ k) : alD (ins D k) e = alD D e := by
  unfold alD
  rw [ins_ne h]
structure Pair (full : List Oper) (tbl : List Nat) (x y : Ev) : Prop where
  ne : x.i ≠ y.i
  wr : ∀ d, x.o.dst = some d → d ∈ looks full y.o ∨ y.o.dst = some d → bef tbl x.i y.i = true
  rd : ∀ d, y.o.dst = some d → d ∈ looks full x.o → bef tbl x.i y.i = true
  ef : y.ef = true → x.ef = true ∨ isAl x.o.op = true ∨ isLd x.o.op = true → bef tbl x.i y.i = true
theorem Pair.of {full : List Oper} {tbl : List Nat} {x y : Ev} (h : pairOk full tbl x.key y.key = true) : Pair full tbl x y := by
  simp only [pairOk, Bool.and_eq_true, bne_iff_ne] at h
  obtain ⟨⟨⟨h1, h2⟩, h3⟩, h4⟩ := h
  refine ⟨h1, fun d hd hy => ?_, fun d hd hx => ?_, fun hy hx => ?_⟩
  · have hd' : x.key.2.2.dst = some d := hd
    rw [hd'] at h2
    simp only [Bool.or_eq_true, Bool.not_eq_true'] at h2
    rcases h2 with h2 | h2
    · rw [Bool.or_eq_false_iff] at h2
      rcases hy with hy | hy
      · have : (looks full y.key.2.2).contains d = true := List.contains_iff_mem.2 hy
        rw [h2.1] at this; cases this
      · have : (y.key.2.2.dst == some d) = true := by rw [show y.key.2.2.dst = some d from hy]; simp
        rw [h2.2] at this; cases this
    · exact h2
  · have hd' : y.key.2.2.dst = some d := hd
    rw [hd'] at h3
    simp only [Bool.or_eq_true, Bool.not_eq_true'] at h3
    rcases h3 with h3 | h3
    · have : (looks full x.key.2.2).contains d = true := List.contains_iff_mem.2 hx
      rw [h3] at this; cases this
    · exact h3
  · simp only [Bool.or_eq_true, Bool.not_eq_true'] at h4
    rcases h4 with (h4 | h4) | h4
    · have hy' : isEf y.key.2.2.op = true := hy
      rw [h4] at hy'; cases hy'
    · rw [Bool.or_eq_false_iff, Bool.or_eq_false_iff] at h4
      have e1 : isEf x.o.op = false := h4.1.1
      have e2 : isAl x.o.op = false := h4.1.2
      have e3 : isLd x.o.op = false := h4.2
      rcases hx with hx | hx | hx
      · rw [show x.ef = isEf x.o.op from rfl, e1] at hx; cases hx
      · rw [e2] at hx; cases hx
      · rw [e3] at hx; cases hx
    · exact h4

theorem suffix_eq {π : Pa} {i j : Nat} (h : (i :: π) <:+ (j :: π)) : i = j := by
  have := h.eq_of_length (by simp)
  injection this
theorem setAll_at {L : List (Pa × List V)} {x : Pa × List V} : ∀ {m : M}, x ∈ L → (∀ y ∈ L, y.1 = x.1 → y.2 = x.2) → (setAll m L).blk x.1 = some (x.2.map V.raw0) := by
  induction L generalizing x with
  | nil => intro m h; cases h
  | cons y L ih =>
    intro m h hc
    by_cases hz : ∃ z ∈ L, z.1 = x.1
    · obtain ⟨z, hz1, hz2⟩ := hz
      have := ih (x := z) (m := m.set y.1 (y.2.map V.raw0)) hz1 (fun u hu he => by rw [hc u (by simp [hu]) (he.trans hz2), hc z (by simp [hz1]) hz2])
      rw [hz2, hc z (by simp [hz1]) hz2] at this
      exact this
    · rcases List.mem_cons.1 h with rfl | h
      · refine (setAll_other (m := m.set x.1 (x.2.map V.raw0)) (fun u hu he => hz ⟨u, hu, he⟩)).trans ?_
        show (if x.1 = x.1 then some (x.2.map V.raw0) else m.blk x.1) = _
        rw [if_pos rfl]
      · exact absurd ⟨x, h, rfl⟩ hz
theorem sload_agree {P : Program} {m1 m2 : M} {T : TypeId} {u : V} {C : V → Prop} (h : sload P m1 T u C) (hb : ∀ id off, u = .ptr id off → m1.blk id ≠ none → m2.blk id = m1.blk id ∧ m2.ver id = m1.ver id) : sload P m2 T u C := by
  have hc : cellsAt m2 u = cellsAt m1 u := by
    cases u with
    | ptr id off =>
      have hn : m1.blk id ≠ none := by
        intro hx
        simp [sload, cellsAt, hx] at h
      obtain ⟨e1, e2⟩ := hb id off rfl hn
      simp only [cellsAt, e1, e2]
    | _ => rfl
  unfold sload at h ⊢
  rw [hc]; exact h
theorem wanted_ok {full : List Oper} {o : Oper} {E : Env} {run : Bool} {a : Act} {c : Conc} (hg : Gate full o.guard E run) (hE : ∀ d ∈ gslots full o, CR c [E d] [a.tmps.getD d undef]) : Region.wanted o (yielded full.toArray a.tmps) = run := by
  cases hgd : o.guard with
  | none => rw [hgd] at hg; simp [Region.wanted, hgd, show run = true from hg]
  | some jb =>
    obtain ⟨j, b⟩ := jb
    rw [hgd] at hg
    obtain ⟨d, hd, hv⟩ := hg
    have hCR := hE d (by simp [gslots, hgd, hd])
    have hd' : (full.toArray[j]?).bind (·.dst) = some d := by simpa using hd
    rcases hv with ⟨t, ht, hr⟩ | ⟨⟨vs, ht⟩, hr⟩
    · rw [ht] at hCR
      have hv' := hCR.inv_lit
      have hy : yielded full.toArray a.tmps j = some t := by
        unfold yielded
        rw [hd']
        simp only [Option.bind_some]
        rw [Array.getD_eq_getD_getElem?] at hv'
        cases hq : a.tmps[d]? with
        | none => rw [hq] at hv'; simp [undef] at hv'
        | some u => rw [hq] at hv'; simp at hv'; rw [hv']
      simp only [Region.wanted, hgd, hy, hr]
      cases t <;> cases b <;> rfl
    · rw [ht] at hCR
      have hv' := hCR.inv_lit
      have hy : yielded full.toArray a.tmps j = none := by
        unfold yielded
        rw [hd']
        simp only [Option.bind_some]
        rw [Array.getD_eq_getD_getElem?] at hv'
        cases hq : a.tmps[d]? with
        | none => rfl
        | some u => rw [hq] at hv'; simp only [Option.getD_some] at hv'; rw [hv']
      simp [Region.wanted, hgd, hy, hr]

section
variable {P : Program} {full : List Oper} {π : Pa} {k0 N : Nat} {tr : List Ev} {tbl : List Nat} {E0 : Env} {m0 : M} {c0 : Conc} {w0 : World} {a0 : Act}
/-- what is given of a trace -/
structure Given (P : Program) (full : List Oper) (π : Pa) (k0 N : Nat) (tr : List Ev) (tbl : List Nat) (E0 : Env) (m0 : M) : Prop where
  lnk : Lnk tr E0 m0 []
  fact : ∀ e ∈ tr, Fact P full π k0 e
  pw : pw (pairOk full tbl) (tr.map Ev.key) = true
  ld : ldChk tbl (tr.map Ev.key) [] = true
  dst : ∀ e ∈ tr, ∀ d, e.o.dst = some d → d < N
theorem Given.pair (g : Given P full π k0 N tr tbl E0 m0) {A B : List Ev} (ht : tr = A ++ B) {x y : Ev} (hx : x ∈ A) (hy : y ∈ B) : Pair full tbl x y := by
  have h := g.pw
  rw [ht, List.map_append] at h
  exact .of (pw_app h _ (List.mem_map_of_mem hx) _ (List.mem_map_of_mem hy))
theorem Given.uniq (g : Given P full π k0 N tr tbl E0 m0) {x e : Ev} (hx : x ∈ tr) (he : e ∈ tr) (hi : x.i = e.i) : x = e := by
  obtain ⟨A, B, ht⟩ := List.append_of_mem he
  rw [ht] at hx
  rcases List.mem_append.1 hx with hx | hx
  · exact absurd hi (g.pair ht hx (by simp : e ∈ e :: B)).ne
  · rcases List.mem_cons.1 hx with hx | hx
    · exact hx
    · exact absurd hi.symm (g.pair (A := A ++ [e]) (B := B) (x := e) (by simpa using ht) (by simp) hx).ne
theorem Given.look (g : Given P full π k0 N tr tbl E0 m0) {D : Nat → Bool} (hcl : ∀ i j, D i = true → bef tbl j i = true → D j = true) {A B : List Ev} {e : Ev} (ht : tr = A ++ e :: B) (hu : D e.i = false) (hr : ∀ j, bef tbl j e.i = true → D j = true) {t : Nat} (hl : t ∈ looks full e.o) :
    endE (tr.filter (fun x => D x.i)) E0 t = e.E t := by
  have hE : e.E = endE A E0 := by
    have := g.lnk; rw [ht] at this
    obtain ⟨h', k, _⟩ := this.right
    exact k.head.1
  rw [ht, List.filter_append, List.filter_cons, if_neg (by simp [hu]), endE_app, hE]
  rw [endE_ne]
  · refine endE_filter rfl fun x hx hp hd => ?_
    have := hr x.i ((g.pair ht hx (by simp : e ∈ e :: B)).wr t hd (.inl hl))
    rw [this] at hp; cases hp
  · intro y hy hd
    rw [List.mem_filter] at hy
    have := hcl _ _ hy.2 ((g.pair (A := A ++ [e]) (B := B) (x := e) (by simpa using ht) (by simp) hy.1).rd t hd hl)
    rw [hu] at this; cases this
theorem Given.put (g : Given P full π k0 N tr tbl E0 m0) {D : Nat → Bool} (hcl : ∀ i j, D i = true → bef tbl j i = true → D j = true) {e : Ev} (he : e ∈ tr) (hu : D e.i = false) :
    endE (tr.filter (fun x => ins D e.i x.i)) E0 = putE e.o.dst e.v (endE (tr.filter (fun x => D x.i)) E0) := by
  obtain ⟨A, B, ht⟩ := List.append_of_mem he
  have hA : A.filter (fun x => ins D e.i x.i) = A.filter (fun x => D x.i) := List.filter_congr fun x hx => by
    have := (g.pair ht hx (by simp : e ∈ e :: B)).ne
    exact ins_ne this
  have hB : B.filter (fun x => ins D e.i x.i) = B.filter (fun x => D x.i) := List.filter_congr fun x hx => by
    have := (g.pair (A := A ++ [e]) (B := B) (x := e) (by simpa using ht) (by simp) hx).ne
    exact ins_ne (Ne.symm this)
  rw [ht, List.filter_append, List.filter_append, List.filter_cons, List.filter_cons, if_pos (by simp [ins]), if_neg (by simp [hu]), hA, hB, endE_app, endE_app]
  refine endE_comm fun y hy t hd hd' => ?_
  rw [List.mem_filter] at hy
  have := hcl _ _ hy.2 ((g.pair (A := A ++ [e]) (B := B) (x := e) (by simpa using ht) (by simp) hy.1).wr t hd (.inr hd'))
  rw [hu] at this; cases this
theorem Given.ev (g : Given P full π k0 N tr tbl E0 m0) {D : Nat → Bool} (hcl : ∀ i j, D i = true → bef tbl j i = true → D j = true) {e : Ev} (he : e ∈ tr) (hu : D e.i = false) (hr : ∀ j, bef tbl j e.i = true → D j = true) {m : M} (hm : m.gl = m0.gl) {x : Operand} (hx : x ∈ opnds e.o.op) :
    Abs.ev m (endE (tr.filter (fun x => D x.i)) E0) x = Abs.ev e.m e.E x := by
  obtain ⟨A, B, ht⟩ := List.append_of_mem he
  cases x with
  | tmp t =>
    refine g.look hcl ht hu hr ?_
    unfold looks
    rw [List.mem_append]
    exact .inl (List.mem_filterMap.2 ⟨_, hx, rfl⟩)
  | global n =>
    show m.gl n = e.m.gl n
    rw [hm, (g.lnk.gl g.fact).1 e he]
  | _ => rfl
theorem path_ne {x e : Ev} (h : x.i ≠ e.i) : ¬ path π k0 e <:+ path π k0 x := fun hs => h (by have := suffix_eq hs; omega)

structure Inv (P : Program) (full : List Oper) (π : Pa) (k0 N : Nat) (tr : List Ev) (tbl : List Nat) (E0 : Env) (m0 : M) (c0 : Conc) (w0 : World) (a0 : Act) (D : Nat → Bool) (c : Conc) (a : Act) (w : World) : Prop where
  closed : ∀ i j, D i = true → bef tbl j i = true → D j = true
  cut : ∃ A1 A2 S, tr = A1 ++ (A2 ++ S) ∧ (∀ e ∈ A1, e.ef = true → D e.i = true) ∧ (A1 = [] ∨ ∃ X e, A1 = X ++ [e] ∧ e.ef = true) ∧ (∀ e ∈ A2, e.ef = false) ∧ (∀ e ∈ S, e.ef = true → D e.i = false) ∧ (S = [] ∨ ∃ e S1, S = e :: S1 ∧ e.ef = true) ∧
    Rep c (setAll (endM A1 m0) ((A2.filter (alD D)).map (pv π k0))) w ∧ Ext π c0 m0 w0 c (setAll (endM A1 m0) ((A2.filter (alD D)).map (pv π k0))) w ∧
    Halves w0.heap.size c (setAll (endM A1 m0) ((A2.filter (alD D)).map (pv π k0))) w ((S.filter (alD D)).map (pv π k0)) ∧ ∀ e ∈ A2, alD D e = true → (endM A1 m0).blk (path π k0 e) = none
  env : EnvOk c (endE (tr.filter (fun x => D x.i)) E0) a N
  fresh : ∀ e ∈ tr, D e.i = false → FreshU c (path π k0 e)
  freshK : FreshK c π (k0 + full.length)
  defers : a.defers = a0.defers

theorem agree {D : Nat → Bool} {c : Conc} (g : Given P full π k0 N tr tbl E0 m0) (hfr : ∀ e ∈ tr, D e.i = false → FreshU c (path π k0 e)) {base : M} {L1 L2 : List Ev} (h1 : ∀ x ∈ L1, x ∈ tr) (h2 : ∀ x ∈ L2, x ∈ tr) (h12 : ∀ x ∈ L1, D x.i = true → x ∈ L2) (h21 : ∀ x ∈ L2, x ∈ L1 ∨ base.blk (path π k0 x) = none)
    {id : Pa} (hk : c.ρ id ≠ none) (hb : (setAll base (L1.map (pv π k0))).blk id ≠ none) : (setAll base (L2.map (pv π k0))).blk id = (setAll base (L1.map (pv π k0))).blk id := by
  have key : ∀ (L : List Ev), (∀ x ∈ L, x ∈ tr) → ∀ x ∈ L, (setAll base (L.map (pv π k0))).blk (path π k0 x) = some (x.ac.map V.raw0) := by
    intro L hL x hx
    refine setAll_at (x := pv π k0 x) (List.mem_map_of_mem hx) fun y hy he => ?_
    obtain ⟨z, hz, rfl⟩ := List.mem_map.1 hy
    have he' : (k0 + z.i) :: π = (k0 + x.i) :: π := he
    injection he' with he'
    rw [g.uniq (hL z hz) (hL x hx) (by omega)]
  by_cases hx : ∃ x ∈ L1, path π k0 x = id
  · obtain ⟨x, hx, rfl⟩ := hx
    have hd : D x.i = true := by
      cases hd : D x.i with
      | true => rfl
      | false => exact absurd ((hfr x (h1 x hx) hd).at_).1 hk
    rw [key L1 h1 x hx, key L2 h2 x (h12 x hx hd)]
  · have e1 : (setAll base (L1.map (pv π k0))).blk id = base.blk id := setAll_other fun y hy he => by
      obtain ⟨z, hz, rfl⟩ := List.mem_map.1 hy
      exact hx ⟨z, hz, he⟩
    rw [e1] at hb ⊢
    refine setAll_other fun y hy he => ?_
    obtain ⟨z, hz, rfl⟩ := List.mem_map.1 hy
    rcases h21 z hz with h | h
    · exact hx ⟨z, h, he⟩
    · exact hb (by rw [← he]; exact h)

theorem mem_take {α : Type} {X Z : List α} {y : α} {f : Nat} (h : X.length < f) : y ∈ (X ++ y :: Z).take f := by
  rw [List.take_append]
  obtain ⟨n, hn⟩ : ∃ n, f - X.length = n + 1 := ⟨f - X.length - 1, by omega⟩
  rw [hn]; simp
theorem mem_drop {α : Type} {X Z : List α} {y : α} {f : Nat} (h : f ≤ X.length) : y ∈ (X ++ y :: Z).drop f := by
  rw [List.drop_append]
  rw [show f - X.length = 0 by omega]; simp

theorem Inv.step {D : Nat → Bool} {c : Conc} {a : Act} {w : World} (g : Given P full π k0 N tr tbl E0 m0) (hI : Inv P full π k0 N tr tbl E0 m0 c0 w0 a0 D c a w) {e : Ev} (he : e ∈ tr) (hu : D e.i = false) (hr : ∀ j, bef tbl j e.i = true → D j = true) {K : Act → World → Prop} {Q : Exit → Act → World → Prop}
    (hK : ∀ c' a' w', Inv P full π k0 N tr tbl E0 m0 c0 w0 a0 (ins D e.i) c' a' w' → K a' w') : wpOp P full.toArray Q e.i K a w := by
  obtain ⟨hcl, ⟨A1, A2, S, ht, hA1, hA1e, hA2, hS, hSe, hRep, hExt, hHalf, hblank⟩, hEnv, hfr, hfrK, hdef⟩ := hI
  obtain ⟨M0, hM0⟩ : ∃ M0, M0 = setAll (endM A1 m0) ((A2.filter (alD D)).map (pv π k0)) := ⟨_, rfl⟩
  rw [← hM0] at hRep hExt hHalf
  have hfact := g.fact e he
  obtain ⟨ho, hgate, hskip, hrun⟩ := hfact
  have hilt : e.i < full.length := (List.getElem?_eq_some_iff.1 ho).1
  have hput := g.put hcl he hu
  have hM0gl : M0.gl = m0.gl := by
    rw [hM0, setAll_gl]
    have h1 := g.lnk
    have : Lnk (A1 ++ (A2 ++ S)) E0 m0 [] := by rw [← ht]; exact h1
    have hA : ∀ {A B : List Ev} {E : Env} {m : M} {h : List M}, Lnk (A ++ B) E m h → Lnk A E m h := by
      intro A
      induction A with
      | nil => intro _ _ _ _ _; trivial
      | cons x A ih => intro B E m h hl; exact ⟨hl.1, hl.2.1, hl.2.2.1, ih hl.2.2.2⟩
    exact ((hA this).gl (fun x hx => g.fact x (by rw [ht]; simp [hx]))).2
  have hev : ∀ x ∈ opnds e.o.op, Abs.ev M0 (endE (tr.filter (fun x => D x.i)) E0) x = Abs.ev e.m e.E x := fun x hx => g.ev hcl he hu hr hM0gl hx
  have hcl' : ∀ i j, ins D e.i i = true → bef tbl j i = true → ins D e.i j = true := by
    intro i j hi hb
    simp only [ins, Bool.or_eq_true, beq_iff_eq] at hi ⊢
    rcases hi with hi | rfl
    · exact .inl (hcl i j hi hb)
    · exact .inl (hr j hb)
  have hmem : ∀ x, x ∈ A1 ∨ x ∈ A2 ∨ x ∈ S → x ∈ tr := by
    intro x hx; rw [ht]; simpa using hx
  have hne_of : ∀ x ∈ tr, D x.i = true → x.i ≠ e.i := fun x _ hd e' => by rw [e', hu] at hd; cases hd
  have hhpath : ∀ x ∈ (S.filter (alD D)).map (pv π k0), ¬ path π k0 e <:+ x.1 := by
    intro x hx
    obtain ⟨z, hz, rfl⟩ := List.mem_map.1 hx
    rw [List.mem_filter] at hz
    refine path_ne (hne_of z (hmem z (.inr (.inr hz.1))) ?_)
    have := hz.2; simp only [alD, Bool.and_eq_true] at this; exact this.2
  -- what stays fresh
  have hfresh' : ∀ c' m' w', Ext (path π k0 e) c M0 w c' m' w' → (∀ x ∈ tr, ins D e.i x.i = false → FreshU c' (path π k0 x)) ∧ FreshK c' π (k0 + full.length) := by
    intro c' m' w' hX
    refine ⟨fun x hx hd id hid => ?_, fun j hj id hid => ?_⟩
    · simp only [ins, Bool.or_eq_false_iff, beq_eq_false_iff_ne] at hd
      exact hX.fresh id (not_under hid (by have := hd.2; omega)) (hfr x hx hd.1 id hid)
    · exact hX.fresh id (not_under hid (by omega)) (hfrK j hj id hid)
  have hhstep : ∀ c' m' w', Ext (path π k0 e) c M0 w c' m' w' → Halves w0.heap.size c' m' w' ((S.filter (alD D)).map (pv π k0)) := by
    intro c' m' w' hX
    refine ⟨fun x hx => (hHalf.all x hx).step hX (hhpath x hx), fun x hx y hy hxy => ?_⟩
    obtain ⟨⟨b, _, _, h1, _⟩, _⟩ := hHalf.all x hx
    obtain ⟨⟨b2, _, _, h2, _⟩, _⟩ := hHalf.all y hy
    rw [hX.le.ρ _ _ h1, hX.le.ρ _ _ h2] at hxy
    exact hHalf.inj x hx y hy (by rw [h1, h2]; exact hxy)
  -- an operation that writes no memory
  have quiet : ∀ c' a' w', e.ef = false → e.al = false → Rep c' M0 w' → Ext (path π k0 e) c M0 w c' M0 w' → EnvOk c' (putE e.o.dst e.v (endE (tr.filter (fun x => D x.i)) E0)) a' N → a'.defers = a.defers → K a' w' := by
    intro c' a' w' hef hal h1 h2 h3 h4
    have hsame : ∀ L : List Ev, (∀ x ∈ L, x ∈ tr) → L.filter (alD (ins D e.i)) = L.filter (alD D) := fun L hL => List.filter_congr fun x hx => by
      by_cases hi : x.i = e.i
      · rw [g.uniq (hL x hx) he hi]; simp [alD, hal]
      · exact alD_ne hi
    have e1 := hsame A2 (fun x hx => hmem x (.inr (.inl hx)))
    have e2 := hsame S (fun x hx => hmem x (.inr (.inr hx)))
    refine hK c' a' w' ⟨hcl', ⟨A1, A2, S, ht, fun x hx hxe => by simp [ins, hA1 x hx hxe], hA1e, hA2, fun x hx hxe => ?_, hSe, ?_, ?_, ?_, fun x hx hxa => ?_⟩, by rw [hput]; exact h3, (hfresh' _ _ _ h2).1, (hfresh' _ _ _ h2).2, h4.trans hdef⟩
    · have hne : x.i ≠ e.i := fun hi => by rw [g.uniq (hmem x (.inr (.inr hx))) he hi, hef] at hxe; cases hxe
      rw [ins_ne hne]; exact hS x hx hxe
    · rw [e1, ← hM0]; exact h1
    · rw [e1, ← hM0]; exact hExt.trans h2.up
    · rw [e1, e2, ← hM0]; exact hhstep _ _ _ h2
    · have : x ∈ A2.filter (alD (ins D e.i)) := List.mem_filter.2 ⟨hx, hxa⟩
      rw [e1] at this
      exact hblank x hx (List.mem_filter.1 this).2
  -- an operation whose effects are done isn't before them
  have notA1 : e.ef = false → isAl e.o.op = true ∨ isLd e.o.op = true → e ∉ A1 := by
    intro hef hk hx
    rcases hA1e with h0 | ⟨X, e', h0, hef'⟩
    · rw [h0] at hx; cases hx
    · rw [h0] at hx
      rcases List.mem_append.1 hx with hx | hx
      · have hb := (g.pair (A := X) (B := e' :: (A2 ++ S)) (by rw [ht, h0]; simp) hx (by simp)).ef hef' (.inr hk)
        have := hcl _ _ (hA1 e' (by rw [h0]; simp) hef') hb
        rw [hu] at this; cases this
      · rw [List.mem_singleton.1 hx, hef'] at hef; cases hef
  -- an effect
  have effect : e.ef = true → M0 = e.m ∧ ∀ c' a' w', Rep c' e.m' w' → Ext (path π k0 e) c M0 w c' e.m' w' → EnvOk c' (putE e.o.dst e.v (endE (tr.filter (fun x => D x.i)) E0)) a' N → a'.defers = a.defers → K a' w' := by
    intro hef
    obtain ⟨S1, hS1⟩ : ∃ S1, S = e :: S1 := by
      have hx : e ∈ A1 ∨ e ∈ A2 ∨ e ∈ S := by have := he; rw [ht] at this; simpa using this
      rcases hx with hx | hx | hx
      · have := hA1 e hx hef; rw [hu] at this; cases this
      · have := hA2 e hx; rw [hef] at this; cases this
      · rcases hSe with h0 | ⟨e1, S1, h0, hef1⟩
        · rw [h0] at hx; cases hx
        · rw [h0] at hx
          rcases List.mem_cons.1 hx with rfl | hx
          · exact ⟨S1, h0⟩
          · have hb := (g.pair (A := A1 ++ (A2 ++ [e1])) (B := S1) (x := e1) (by rw [ht, h0]; simp) (by simp) hx).ef hef (.inl hef1)
            have := hS e1 (by rw [h0]; simp) hef1
            rw [hr _ hb] at this; cases this
    have hal2 : A2.filter (alD D) = A2.filter Ev.al := List.filter_congr fun x hx => by
      cases hxa : x.al with
      | false => simp [alD, hxa]
      | true =>
        have hb := (g.pair (A := A1 ++ A2) (B := e :: S1) (x := x) (y := e) (by rw [ht, hS1]; simp) (by simp [hx]) (by simp)).ef hef (.inr (.inl (by simp only [Ev.al, Bool.and_eq_true] at hxa; exact hxa.2)))
        simp [alD, hxa, hr _ hb]
    have hlk : Lnk (A1 ++ (A2 ++ e :: S1)) E0 m0 [] := by rw [← hS1, ← ht]; exact g.lnk
    obtain ⟨h1, hlk1, _⟩ := hlk.right
    have hseg := seg_mem (P := P) (full := full) (π := π) (k0 := k0) hlk1 (fun x hx => g.fact x (hmem x (.inr (.inl hx)))) hA2
    obtain ⟨h2, hlk2, _⟩ := hlk1.right
    have hem : e.m = M0 := by rw [hlk2.head.2.1, hseg, hM0, hal2]
    refine ⟨hem.symm, fun c' a' w' k1 k2 k3 k4 => ?_⟩
    -- the next stretch
    obtain ⟨T, S2, hTS, hT, hS2⟩ : ∃ T S2, S1 = T ++ S2 ∧ (∀ x ∈ T, x.ef = false) ∧ (S2 = [] ∨ ∃ x S3, S2 = x :: S3 ∧ x.ef = true) := by
      clear hlk hlk1 hlk2 hS1
      induction S1 with
      | nil => exact ⟨[], [], rfl, by simp, .inl rfl⟩
      | cons x S1 ih =>
        cases hxe : x.ef with
        | true => exact ⟨[], x :: S1, rfl, by simp, .inr ⟨x, S1, rfl, hxe⟩⟩
        | false =>
          obtain ⟨T, S2, h1, h2, h3⟩ := ih
          exact ⟨x :: T, S2, by rw [h1]; rfl, fun y hy => (List.mem_cons.1 hy).elim (fun h => by rw [h]; exact hxe) (h2 y), h3⟩
    have hSm : ∀ x ∈ T ++ S2, x ∈ S := fun x hx => by rw [hS1, hTS]; exact List.mem_cons_of_mem _ hx
    have hne2 : ∀ x ∈ T ++ S2, x.i ≠ e.i := fun x hx => ((g.pair (A := A1 ++ (A2 ++ [e])) (B := T ++ S2) (x := e) (by rw [ht, hS1, hTS]; simp) (by simp) hx).ne).symm
    have heal : e.al = false := by
      cases hal : e.al with
      | false => rfl
      | true =>
        have h5 : isEf e.o.op = true := hef
        simp only [Ev.al, Bool.and_eq_true] at hal
        have h6 := hal.2
        cases hop : e.o.op with
        | alloc T => rw [hop] at h5; cases h5
        | box T x => rw [hop] at h5; cases h5
        | _ => rw [hop] at h6; cases h6
    have hfl : ∀ L : List Ev, (∀ x ∈ L, x ∈ T ++ S2) → L.filter (alD (ins D e.i)) = L.filter (alD D) := fun L hL => List.filter_congr fun x hx => alD_ne (hne2 x (hL x hx))
    have hSf : (S.filter (alD D)).map (pv π k0) = (T.filter (alD D)).map (pv π k0) ++ (S2.filter (alD D)).map (pv π k0) := by
      rw [hS1, hTS, List.filter_cons, if_neg (by simp [alD, heal]), List.filter_append, List.map_append]
    have hH := hhstep _ _ _ k2
    rw [hSf] at hH
    have hX1 : Ext π c0 m0 w0 c' e.m' w' := hExt.trans k2.up
    have hpwt : ((T.filter (alD D)).map (pv π k0) ++ (S2.filter (alD D)).map (pv π k0)).Pairwise (fun x y => y.1 ≠ x.1) := by
      rw [← List.map_append, ← List.filter_append, List.pairwise_map]
      refine List.Pairwise.filter _ ?_
      have : ∀ (L A : List Ev), tr = A ++ L → L.Pairwise (fun x y => (pv π k0 y).1 ≠ (pv π k0 x).1) := by
        intro L
        induction L with
        | nil => intro A _; exact .nil
        | cons x L ih =>
          intro A hA
          refine .cons (fun y hy he' => ?_) (ih (A ++ [x]) (by rw [hA]; simp))
          have hn := (g.pair (A := A ++ [x]) (B := L) (x := x) (by rw [hA]; simp) (by simp) hy).ne
          have he2 : (k0 + y.i) :: π = (k0 + x.i) :: π := he'
          injection he2 with he2
          omega
      exact this (T ++ S2) (A1 ++ (A2 ++ [e])) (by rw [ht, hS1, hTS]; simp)
    obtain ⟨c2, q1, q2, q3, q4, q5, q6⟩ := Halves.promote ((T.filter (alD D)).map (pv π k0)) k1 hX1 hH hpwt (fun x hx => by
      obtain ⟨z, _, rfl⟩ := List.mem_map.1 hx
      exact List.suffix_cons _ _)
    have hendM : endM (A1 ++ (A2 ++ [e])) m0 = e.m' := by rw [endM_app, endM_app]; rfl
    have hTmem : ∀ x ∈ (T.filter (alD D)).map (pv π k0), ∃ z ∈ T, x = pv π k0 z ∧ D z.i = true := fun x hx => by
      obtain ⟨z, hz, rfl⟩ := List.mem_map.1 hx
      rw [List.mem_filter] at hz
      have := hz.2; simp only [alD, Bool.and_eq_true] at this
      exact ⟨z, hz.1, rfl, this.2⟩
    refine hK c2 a' w' ⟨hcl', ⟨A1 ++ (A2 ++ [e]), T, S2, by rw [ht, hS1, hTS]; simp, fun x hx hxe => ?_, .inr ⟨A1 ++ A2, e, by simp, hef⟩, hT, fun x hx hxe => ?_, hS2, ?_, ?_, ?_, fun x hx hxa => ?_⟩, ?_, fun x hx hd id hid => ?_, fun j hj id hid => ?_, k4.trans hdef⟩
    · rcases List.mem_append.1 hx with hx | hx
      · simp [ins, hA1 x hx hxe]
      · rcases List.mem_append.1 hx with hx | hx
        · rw [hA2 x hx] at hxe; cases hxe
        · rw [List.mem_singleton.1 hx]; simp [ins]
    · have hx' : x ∈ T ++ S2 := by simp [hx]
      rw [ins_ne (hne2 x hx')]; exact hS x (hSm x hx') hxe
    · rw [hendM, hfl T (fun x hx => by simp [hx])]; exact q1
    · rw [hendM, hfl T (fun x hx => by simp [hx])]; exact q2
    · rw [hendM, hfl T (fun x hx => by simp [hx]), hfl S2 (fun x hx => by simp [hx])]; exact q4
    · rw [hendM]
      have hxm : x ∈ T.filter (alD (ins D e.i)) := List.mem_filter.2 ⟨hx, hxa⟩
      rw [hfl T (fun x hx => by simp [hx])] at hxm
      exact (hH.all (pv π k0 x) (List.mem_append.2 (.inl (List.mem_map_of_mem hxm)))).blank.blk
    · rw [hput]; exact k3.mono q3
    · refine q5 id (fun y hy => ?_) ((hfresh' _ _ _ k2).1 x hx hd id hid)
      obtain ⟨z, hz, rfl, hzd⟩ := hTmem y hy
      rintro rfl
      have := suffix_eq hid
      have hxz : x.i = z.i := by omega
      simp only [ins, Bool.or_eq_false_iff] at hd
      rw [hxz, hzd] at hd; cases hd.1
    · refine q5 id (fun y hy => ?_) ((hfresh' _ _ _ k2).2 j hj id hid)
      obtain ⟨z, hz, rfl, hzd⟩ := hTmem y hy
      rintro rfl
      have := suffix_eq hid
      have hzl : z.i < full.length := (List.getElem?_eq_some_iff.1 (g.fact z (hmem z (.inr (.inr (hSm z (by simp [hz])))))).1).1
      omega
  -- the walk
  obtain ⟨A, B, htAB⟩ := List.append_of_mem he
  have hwanted : Region.wanted e.o (yielded full.toArray a.tmps) = e.run := wanted_ok hgate (c := c) fun d hd => by
    have := hEnv.at_ d
    rw [g.look hcl htAB hu hr (by unfold looks; exact List.mem_append.2 (.inr hd))] at this
    exact this
  have hdst : ∀ d, e.o.dst = some d → d < N := g.dst e he
  have hfe : FreshU c (path π k0 e) := hfr e he hu
  unfold wpOp
  have hops : full.toArray[e.i]? = some e.o := by simpa using ho
  rw [hops]
  simp only [hwanted]
  cases hrn : e.run with
  | false =>
    simp only [Bool.false_eq_true, if_false]
    obtain ⟨hv, hm'⟩ := hskip hrn
    have hEv := hEnv.put (v := .lit undef) (x := undef) (.lit .nil) hdst
    cases hef : e.ef with
    | false => exact quiet c _ w hef (by simp [Ev.al, hrn]) hRep (.refl _ c M0 w) (by rw [hv]; exact hEv) (put_defers _ _ _)
    | true =>
      obtain ⟨q1, q2⟩ := effect hef
      exact q2 c _ w (by rw [hm', ← q1]; exact hRep) (by rw [hm', ← q1]; exact .refl _ c M0 w) (by rw [hv]; exact hEv) (put_defers _ _ _)
  | true =>
    simp only [if_true]
    refine .inl ?_
    have hd := hrun hrn
    unfold Did at hd
    cases hef : e.ef with
    | true =>
      obtain ⟨q1, q2⟩ := effect hef
      have hef' : isEf e.o.op = true := hef
      rw [if_pos hef'] at hd
      have hst := stepOp_ef (E1 := endE (tr.filter (fun x => D x.i)) E0) hef' hd.1 (fun x hx => by have := hev x hx; rw [q1] at this; exact this)
      rw [← q1] at hst
      refine Oper.wp_mono ?_ (stepOp_ok (N := N) hst hRep hEnv hfe hdst Q)
      rintro a' w' ⟨c', v, m', ⟨rfl, rfl⟩, h1, h2, h3, h4⟩
      exact q2 c' a' w' h1 h2 h3 h4
    | false =>
      have hef' : isEf e.o.op = false := hef
      rw [if_neg (by simp [hef'])] at hd
      cases hal : isAl e.o.op with
      | false =>
        rw [if_neg (by simp [hal])] at hd
        have hst : stepOp P e.o (path π k0 e) (endE (tr.filter (fun x => D x.i)) E0) M0 (fun r m1 => r = e.v ∧ m1 = M0) := by
          split at hd
          · rename_i T x hop
            have hnA := notA1 hef (.inr (by rw [hop]; rfl))
            have hu' : Abs.ev M0 (endE (tr.filter (fun x => D x.i)) E0) x = Abs.ev e.m e.E x := hev x (by rw [hop]; simp [opnds])
            have hcr := hEnv.ev hRep x
            have fin : ∀ m1 ∈ e.m :: e.hist.take e.f, (∀ id, c.ρ id ≠ none → m1.blk id ≠ none → M0.blk id = m1.blk id ∧ M0.ver id = m1.ver id) → stepOp P e.o (path π k0 e) (endE (tr.filter (fun x => D x.i)) E0) M0 (fun r m1 => r = e.v ∧ m1 = M0) := by
              intro m1 hm1 hag
              unfold stepOp
              simp only [hop, and_true]
              have hs := hd.1 m1 hm1
              rw [← hu'] at hs
              refine sload_agree hs fun id off hid hb => ?_
              rw [hid] at hcr
              obtain ⟨b, hb1, _⟩ := hcr.inv_ptr
              exact hag id (by rw [hb1]; simp) hb
            have hx : e ∈ A2 ∨ e ∈ S := by have := he; rw [ht] at this; simp only [List.mem_append] at this; exact this.resolve_left hnA
            rcases hx with hx | hx
            · obtain ⟨U, V', hUV⟩ := List.append_of_mem hx
              have hlk : Lnk (A1 ++ (U ++ e :: (V' ++ S))) E0 m0 [] := by have := g.lnk; rw [ht, hUV] at this; simpa using this
              obtain ⟨h1, hlk1, _⟩ := hlk.right
              have hUm : ∀ x ∈ U, x ∈ A2 := fun x hx => by rw [hUV]; simp [hx]
              have hseg := seg_mem (P := P) (full := full) (π := π) (k0 := k0) hlk1 (fun x hx => g.fact x (hmem x (.inr (.inl (hUm x hx))))) (fun x hx => hA2 x (hUm x hx))
              obtain ⟨h2, hlk2, _⟩ := hlk1.right
              have hem : e.m = setAll (endM A1 m0) ((U.filter Ev.al).map (pv π k0)) := by rw [hlk2.head.2.1, hseg]
              refine fin e.m (by simp) fun id hk hb => ⟨?_, by rw [hem, hM0, setAll_ver, setAll_ver]⟩
              rw [hem] at hb ⊢
              rw [hM0]
              refine agree g hfr (fun x hx => hmem x (.inr (.inl (hUm x (List.mem_filter.1 hx).1)))) (fun x hx => hmem x (.inr (.inl (List.mem_filter.1 hx).1))) (fun x hx hdx => ?_) (fun x hx => ?_) hk hb
              · rw [List.mem_filter] at hx
                exact List.mem_filter.2 ⟨hUm x hx.1, by simp [alD, hx.2, hdx]⟩
              · rw [List.mem_filter] at hx
                exact .inr (hblank x hx.1 hx.2)
            · rcases hSe with h0 | ⟨e1, S1, h0, hef1⟩
              · rw [h0] at hx; cases hx
              · rw [h0] at hx
                have hx1 : e ∈ S1 := (List.mem_cons.1 hx).resolve_left (fun he1 => by rw [he1, hef1] at hef; cases hef)
                obtain ⟨U, V', hUV⟩ := List.append_of_mem hx1
                have hlk : Lnk ((A1 ++ (A2 ++ (e1 :: U))) ++ (e :: V')) E0 m0 [] := by have := g.lnk; rw [ht, h0, hUV] at this; simpa using this
                obtain ⟨hh, hlk1, hhe⟩ := hlk.right
                have hhist : e.hist = hh := hlk1.head.2.2
                have hlkb : Lnk (A1 ++ (A2 ++ (e1 :: S1))) E0 m0 [] := by have := g.lnk; rw [ht, h0] at this; exact this
                obtain ⟨h1, hlk2, _⟩ := hlkb.right
                have hseg := seg_mem (P := P) (full := full) (π := π) (k0 := k0) hlk2 (fun x hx => g.fact x (hmem x (.inr (.inl hx)))) hA2
                obtain ⟨h2, hlk3, _⟩ := hlk2.right
                have hem : e1.m = setAll (endM A1 m0) ((A2.filter Ev.al).map (pv π k0)) := by rw [hlk3.head.2.1, hseg]
                have hcount : (U.filter Ev.ef).length < e.f := by
                  by_cases hlt : (U.filter Ev.ef).length < e.f
                  · exact hlt
                  · exfalso
                    have hld := g.ld
                    have hkeys : tr.map Ev.key = (A1 ++ (A2 ++ (e1 :: U))).map Ev.key ++ e.key :: V'.map Ev.key := by rw [ht, h0, hUV]; simp
                    rw [hkeys] at hld
                    have hall := ldChk_at hld (by show isLd e.o.op = true; rw [hop]; rfl) e1.i (by
                      rw [List.append_nil]
                      have hf1 : ((A1 ++ (A2 ++ (e1 :: U))).map Ev.key).filter (fun x => isEf x.2.2.op) = ((A1 ++ (A2 ++ (e1 :: U))).filter Ev.ef).map Ev.key := by rw [List.filter_map]; rfl
                      rw [hf1, List.filter_append, List.filter_append, List.filter_cons, if_pos hef1]
                      simp only [List.map_append, List.map_cons, List.reverse_append, List.reverse_cons, List.append_assoc, List.map_reverse, List.map_map, List.cons_append, List.nil_append]
                      exact mem_drop (by show e.f ≤ _; simpa using hlt))
                    have := hS e1 (by rw [h0]; simp) hef1
                    rw [hr _ hall] at this; cases this
                refine fin e1.m (List.mem_cons_of_mem _ ?_) fun id hk hb => ⟨?_, by rw [hem, hM0, setAll_ver, setAll_ver]⟩
                · rw [hhist, hhe, List.append_nil, List.filter_append, List.filter_append, List.filter_cons, if_pos hef1]
                  simp only [List.reverse_append, List.reverse_cons, List.map_append, List.append_assoc, List.map_cons, List.cons_append, List.nil_append]
                  exact mem_take (by simpa using hcount)
                · rw [hem] at hb ⊢
                  rw [hM0]
                  refine agree g hfr (fun x hx => hmem x (.inr (.inl (List.mem_filter.1 hx).1))) (fun x hx => hmem x (.inr (.inl (List.mem_filter.1 hx).1))) (fun x hx hdx => ?_) (fun x hx => ?_) hk hb
                  · rw [List.mem_filter] at hx
                    exact List.mem_filter.2 ⟨hx.1, by simp [alD, hx.2, hdx]⟩
                  · rw [List.mem_filter] at hx
                    refine .inl (List.mem_filter.2 ⟨hx.1, ?_⟩)
                    have := hx.2; simp only [alD, Bool.and_eq_true] at this; exact this.1
          · refine stepOp_pop ?_
            have : (fun v => v = e.v ∧ M0 = M0) = fun v => v = e.v := by funext v; simp
            rw [this]
            exact pop_congr hd.1 hev
        refine Oper.wp_mono ?_ (stepOp_ok (N := N) hst hRep hEnv hfe hdst Q)
        rintro a' w' ⟨c', v, m', ⟨rfl, rfl⟩, h1, h2, h3, h4⟩
        exact quiet c' a' w' hef (by simp [Ev.al, hal]) h1 h2 h3 h4
      | true =>
        rw [if_pos hal] at hd
        obtain ⟨hac, hv, hm'⟩ := hd
        have heal : e.al = true := by simp [Ev.al, hrn, hal]
        rw [← acells_congr (g1 := Abs.ev M0 (endE (tr.filter (fun x => D x.i)) E0)) hev] at hac
        obtain ⟨cs, T, hcs, hone, hexec⟩ := acells_run (P := P) hac hEnv hRep
        obtain ⟨hR1, hX1, hB1⟩ := hRep.half hfe.at_ cs T
        have hnA := notA1 hef (.inl hal)
        unfold Oper.wp
        rw [hexec]
        show K (a.put e.o.dst (.pointer (some ⟨w.heap.size, 0, none⟩))) (w.alloc (.cells cs.toArray T))
        have hρ1 : (c.half (path π k0 e) w.heap.size).ρ (path π k0 e) = some w.heap.size := by
          show (if path π k0 e = path π k0 e then some w.heap.size else _) = _
          rw [if_pos rfl]
        have hE1 : EnvOk (c.half (path π k0 e) w.heap.size) (putE e.o.dst e.v (endE (tr.filter (fun x => D x.i)) E0)) (a.put e.o.dst (.pointer (some ⟨w.heap.size, 0, none⟩))) N := by
          rw [hv]
          exact (hEnv.mono hX1.le).put (.ptr hρ1 .nil) hdst
        have hnew : Half w0.heap.size (c.half (path π k0 e) w.heap.size) M0 (w.alloc (.cells cs.toArray T)) (path π k0 e) e.ac := by
          refine ⟨⟨w.heap.size, T, cs.toArray, hρ1, Blk.new _ _ _, by simpa using hcs.mono hX1.le, by simpa using hone, hRep.com.out (Nat.le_refl _), fun ho' => ?_, fun hl => ?_, hExt.size⟩, hB1⟩
          · rcases ho' with ⟨id, hid, hr'⟩ | ho'
            · have hne : id ≠ path π k0 e := by rintro rfl; exact hid hB1.blk
              have hr2 : (if id = path π k0 e then some w.heap.size else c.ρ id) = some w.heap.size := hr'
              rw [if_neg hne] at hr2
              have := hRep.lt hid hr2; omega
            · have := hRep.own_lt (.inr ho'); omega
          · have := (hRep.lit _ hl).2.1; omega
        have hHs := hhstep _ _ _ hX1
        have hHall : Halves w0.heap.size (c.half (path π k0 e) w.heap.size) M0 (w.alloc (.cells cs.toArray T)) (pv π k0 e :: (S.filter (alD D)).map (pv π k0)) := by
          have hlt : ∀ y ∈ (S.filter (alD D)).map (pv π k0), (c.half (path π k0 e) w.heap.size).ρ y.1 ≠ some w.heap.size := fun y hy hy2 => by
            obtain ⟨⟨b, _, _, h1, h2, _⟩, _⟩ := hHalf.all y hy
            have := hX1.le.ρ _ _ h1
            rw [this] at hy2
            injection hy2 with hy2
            have := h2.lt; omega
          refine ⟨fun x hx => ?_, fun x hx y hy hxy => ?_⟩
          · rcases List.mem_cons.1 hx with rfl | hx
            · exact hnew
            · exact hHs.all x hx
          · rcases List.mem_cons.1 hx with rfl | hx <;> rcases List.mem_cons.1 hy with rfl | hy
            · rfl
            · exact absurd (hxy.symm.trans hρ1) (hlt y hy)
            · exact absurd (hxy.trans hρ1) (hlt x hx)
            · exact hHs.inj x hx y hy hxy
        have hcurn : (endM A1 m0).blk (path π k0 e) = none := by
          have := hB1.blk
          rw [hM0] at this
          exact (setAll_none this).1
        have hx : e ∈ A2 ∨ e ∈ S := by have := he; rw [ht] at this; simp only [List.mem_append] at this; exact this.resolve_left hnA
        rcases hx with hx | hx
        · obtain ⟨U, V', hUV⟩ := List.append_of_mem hx
          have hneU : ∀ x ∈ U, x.i ≠ e.i := fun x hx => (g.pair (A := A1 ++ U) (B := e :: (V' ++ S)) (x := x) (y := e) (by rw [ht, hUV]; simp) (by simp [hx]) (by simp)).ne
          have hneV : ∀ x ∈ V' ++ S, x.i ≠ e.i := fun x hx => ((g.pair (A := A1 ++ (U ++ [e])) (B := V' ++ S) (x := e) (by rw [ht, hUV]; simp) (by simp) hx).ne).symm
          have fU : U.filter (alD (ins D e.i)) = U.filter (alD D) := List.filter_congr fun x hx => alD_ne (hneU x hx)
          have fV : V'.filter (alD (ins D e.i)) = V'.filter (alD D) := List.filter_congr fun x hx => alD_ne (hneV x (by simp [hx]))
          have fS : S.filter (alD (ins D e.i)) = S.filter (alD D) := List.filter_congr fun x hx => alD_ne (hneV x (by simp [hx]))
          have hset : setAll (endM A1 m0) ((A2.filter (alD (ins D e.i))).map (pv π k0)) = setAll M0 [pv π k0 e] := by
            rw [hM0, hUV, List.filter_append, List.filter_append, List.filter_cons, List.filter_cons, if_pos (by simp [alD, ins, heal]), if_neg (by simp [alD, hu]), fU, fV]
            simp only [List.map_append, List.map_cons, setAll_app]
            refine (setAll_comm (m := setAll (endM A1 m0) ((U.filter (alD D)).map (pv π k0))) (p := path π k0 e) (vs := e.ac.map V.raw0) fun y hy => ?_)
            obtain ⟨z, hz, rfl⟩ := List.mem_map.1 hy
            intro he'
            have he2 : (k0 + z.i) :: π = (k0 + e.i) :: π := he'
            injection he2 with he2
            exact hneV z (by simp [(List.mem_filter.1 hz).1]) (by omega)
          obtain ⟨c2, q1, q2, q3, q4, q5, q6⟩ := Halves.promote [pv π k0 e] hR1 (hExt.trans hX1.up) hHall (.cons (fun y hy => by
              obtain ⟨z, hz, rfl⟩ := List.mem_map.1 hy
              intro he'
              have he2 : (k0 + z.i) :: π = (k0 + e.i) :: π := he'
              injection he2 with he2
              exact hneV z (by simp [(List.mem_filter.1 hz).1]) (by omega)) (by
              show List.Pairwise _ ((S.filter (alD D)).map (pv π k0))
              rw [List.pairwise_map]
              refine List.Pairwise.filter _ ?_
              have : ∀ (L A : List Ev), tr = A ++ L → L.Pairwise (fun x y => (pv π k0 y).1 ≠ (pv π k0 x).1) := by
                intro L
                induction L with
                | nil => intro A _; exact .nil
                | cons x L ih =>
                  intro A hA
                  refine .cons (fun y hy he' => ?_) (ih (A ++ [x]) (by rw [hA]; simp))
                  have hn := (g.pair (A := A ++ [x]) (B := L) (x := x) (by rw [hA]; simp) (by simp) hy).ne
                  have he2 : (k0 + y.i) :: π = (k0 + x.i) :: π := he'
                  injection he2 with he2
                  omega
              exact this S (A1 ++ A2) (by rw [ht]; simp))) (fun x hx => by
            rw [List.mem_singleton.1 hx]; exact List.suffix_cons _ _)
          refine hK c2 _ _ ⟨hcl', ⟨A1, A2, S, ht, fun x hx hxe => by simp [ins, hA1 x hx hxe], hA1e, hA2, fun x hx hxe => ?_, hSe, by rw [hset]; exact q1, by rw [hset]; exact q2, by rw [hset, fS]; exact q4, fun x hx hxa => ?_⟩, by rw [hput]; exact hE1.mono q3, fun x hx hd id hid => ?_, fun j hj id hid => ?_, (put_defers _ _ _).trans hdef⟩
          · rw [ins_ne (hneV x (by simp [hx]))]; exact hS x hx hxe
          · by_cases hi : x.i = e.i
            · rw [g.uniq (hmem x (.inr (.inl hx))) he hi]; exact hcurn
            · exact hblank x hx (by rw [alD_ne hi] at hxa; exact hxa)
          · refine q5 id (fun y hy => ?_) ((hfresh' _ _ _ hX1).1 x hx hd id hid)
            rw [List.mem_singleton.1 hy]
            rintro rfl
            have := suffix_eq hid
            simp only [ins, Bool.or_eq_false_iff, beq_eq_false_iff_ne] at hd
            exact hd.2 (by omega)
          · refine q5 id (fun y hy => ?_) ((hfresh' _ _ _ hX1).2 j hj id hid)
            rw [List.mem_singleton.1 hy]
            rintro rfl
            have := suffix_eq hid
            omega
        · have hneA2 : ∀ x ∈ A1 ++ A2, x.i ≠ e.i := fun x hx' => (g.pair (A := A1 ++ A2) (B := S) (by rw [ht]; simp) hx' hx).ne
          have f2 : A2.filter (alD (ins D e.i)) = A2.filter (alD D) := List.filter_congr fun x hx' => alD_ne (hneA2 x (by simp [hx']))
          refine hK _ _ _ ⟨hcl', ⟨A1, A2, S, ht, fun x hx hxe => by simp [ins, hA1 x hx hxe], hA1e, hA2, fun x hx' hxe => ?_, hSe, by rw [f2, ← hM0]; exact hR1, by rw [f2, ← hM0]; exact hExt.trans hX1.up, by
            rw [f2, ← hM0]
            refine hHall.sub fun y hy => ?_
            obtain ⟨z, hz, rfl⟩ := List.mem_map.1 hy
            rw [List.mem_filter] at hz
            by_cases hi : z.i = e.i
            · rw [g.uniq (hmem z (.inr (.inr hz.1))) he hi]; simp
            · exact List.mem_cons_of_mem _ (List.mem_map_of_mem (List.mem_filter.2 ⟨hz.1, by have h9 := hz.2; rw [alD_ne hi] at h9; exact h9⟩)), fun x hx' hxa => ?_⟩, by rw [hput]; exact hE1, (hfresh' _ _ _ hX1).1, (hfresh' _ _ _ hX1).2, (put_defers _ _ _).trans hdef⟩
          · have hne : x.i ≠ e.i := fun hi => by rw [g.uniq (hmem x (.inr (.inr hx'))) he hi, hef] at hxe; cases hxe
            rw [ins_ne hne]; exact hS x hx' hxe
          · exact hblank x hx' (by rw [alD_ne (hneA2 x (by simp [hx']))] at hxa; exact hxa)
end
end Go.Proofs.YtolhahlnccekcaaDoor.Abs
