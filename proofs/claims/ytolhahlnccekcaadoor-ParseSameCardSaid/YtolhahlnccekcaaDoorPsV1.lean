/-
  Own helper theorems of no one function: slices that may be written ('vec': an own block, with room): a region with one such operation, a written slice literal, append.
-/
import Derived.Test.YtolhahlnccekcaaDoorPsS6
namespace Go.Proofs.YtolhahlnccekcaaDoor.Abs
open Go.RowKit
set_option linter.unusedVariables false
set_option linter.unusedSimpArgs false
section
variable {P : Program} {c c' : Conc} {m m' : M} {w w' : World} {E : Env} {a : Act} {N : Nat}
theorem POps_okR {rest : List Oper} {full : Array Oper} {π : Pa} {K : Nat → Env → M → Prop} {Q : Exit → Act → World → Prop} {c0 : Conc} {m0 : M} {w0 : World} {a0 : Act} {W : Nat → Bool} {E0 : Env} (hQ : ∀ a' w', PostW π N W E0 c0 m0 w0 a0 K a' w' → wpList P full Q rest a' w') :
    ∀ (ops : List Oper) (k : Nat) (E : Env) (c : Conc) (m : M) (w : World) (a : Act), POps P full.toList π K ops k E m → fitsOps N ops = true → Rep c m w → EnvOk c E a N → FreshK c π k → Ext π c0 m0 w0 c m w → a.defers = a0.defers → (∀ t, W t = false → E t = E0 t) → (∀ o ∈ ops, ∀ d, o.dst = some d → W d = true) → wpList P full Q (ops ++ rest) a w := by
  intro ops
  induction ops with
  | nil => intro k E c m w a hs _ hR hE hF hX hd hU _; exact hQ a w ⟨c, k, E, m, hs, hR, hX, hE, hF, hd, hU⟩
  | cons o os ih =>
    intro k E c m w a hs hfit hR hE hF hX hd hU hW
    have hU' : ∀ v t, W t = false → putE o.dst v E t = E0 t := by
      intro v t ht
      cases hdo : o.dst with
      | none => exact hU t ht
      | some d =>
        have := hW o (by simp) d hdo
        show (if t = d then v else E t) = E0 t
        rw [if_neg (by rintro rfl; rw [ht] at this; cases this)]; exact hU t ht
    have hW' : ∀ o' ∈ os, ∀ d, o'.dst = some d → W d = true := fun o' ho' => hW o' (by simp [ho'])
    simp only [fitsOps, List.all_cons, Bool.and_eq_true] at hfit
    have hfo : ∀ d, o.dst = some d → d < N := by
      intro d h; have := hfit.1; rw [h] at this; simpa using this
    have run : Region.wanted o (yielded full a.tmps) = true → stepOp P o (k :: π) E m (fun v m' => POps P full.toList π K os (k + 1) (putE o.dst v E) m') → wpList P full Q (o :: (os ++ rest)) a w := by
      intro hw hst
      refine BigFrame.wpList_want hw fun K' hK' => ?_
      refine Oper.wp_mono ?_ (stepOp_ok (N := N) hst hR hE hF.at_ hfo Q)
      rintro a' w' ⟨c', v, m', hC, h1, h2, h3, h4⟩
      exact hK' a' w' (ih _ _ c' m' w' a' hC hfit.2 h1 h3 (h2.freshK hF) (hX.trans h2.up) (h4.trans hd) (hU' _) hW')
    simp only [POps] at hs
    rw [List.cons_append]
    split at hs
    · rename_i hg
      exact run (by simp [Region.wanted, hg]) hs
    · rename_i j b hg
      split at hs
      · rename_i d hdst
        split at hs
        · rename_i t ht
          have hy : yielded full a.tmps j = some t := by
            have hv := hE.at_ d
            rw [ht] at hv
            have hv' := hv.inv_lit
            unfold yielded
            have : (full[j]?).bind (·.dst) = some d := by simpa using hdst
            rw [this]
            simp only [Option.bind_some]
            have hdl : a.tmps[d]? = some (.bool t) := by
              rw [Array.getD_eq_getD_getElem?] at hv'
              cases hq : a.tmps[d]? with
              | none => rw [hq] at hv'; simp [undef] at hv'
              | some u => rw [hq] at hv'; simp at hv'; rw [hv']
            rw [hdl]
          split at hs
          · rename_i hb
            exact run (by simp [Region.wanted, hg, hy, hb]) hs
          · rename_i hb
            have hw : Region.wanted o (yielded full a.tmps) = false := by simp [Region.wanted, hg, hy, hb]
            unfold wpList
            rw [if_neg (by simp [hw])]
            exact ih _ _ c m w _ hs hfit.2 hR (hE.put (.lit .nil) hfo) (hF.le (by omega)) hX ((put_defers _ _ _).trans hd) (hU' _) hW'
        · rename_i vs ht
          have hy : yielded full a.tmps j = none := by
            have hv := hE.at_ d
            rw [ht] at hv
            have hv' := hv.inv_lit
            unfold yielded
            have : (full[j]?).bind (·.dst) = some d := by simpa using hdst
            rw [this]
            simp only [Option.bind_some]
            rw [Array.getD_eq_getD_getElem?] at hv'
            cases hq : a.tmps[d]? with
            | none => rfl
            | some u => rw [hq] at hv'; simp only [Option.getD_some] at hv'; rw [hv']
          have hw : Region.wanted o (yielded full a.tmps) = false := by simp [Region.wanted, hg, hy]
          unfold wpList
          rw [if_neg (by simp [hw])]
          exact ih _ _ c m w _ hs hfit.2 hR (hE.put (.lit .nil) hfo) (hF.le (by omega)) hX ((put_defers _ _ _).trans hd) (hU' _) hW'
        · exact hs.elim
      · exact hs.elim
/-- a region of which one operation is told by another rule -/
theorem SW_regX {π : Pa} {k : Nat} {Q : Exit → Nat → Env → M → Prop} {id : Nat} {ops : Array Oper} (i : Nat) {o : Oper} (ho : ops.toList = ops.toList.take i ++ o :: ops.toList.drop (i + 1)) (hg : o.guard = none) {X : Pa → Env → M → (V → M → Prop) → Prop}
    (hX : ∀ {c : Conc} {m : M} {w : World} {E : Env} {a : Act} {q : Pa} {C : V → M → Prop}, X q E m C → Rep c m w → EnvOk c E a N → FreshU c q → (∀ d, o.dst = some d → d < N) → ∀ Q, o.wp P a w (Post1 q N o c E m w a C) Q)
    (h : POps P ops.toList π (fun k' E' m' => X (k' :: π) E' m' (fun v m2 => POps P ops.toList π (Q .normal) (ops.toList.drop (i + 1)) (k' + 1) (putE o.dst v E') m2)) (ops.toList.take i) k E m) : SW P N π (.region id ops false) k E m Q := by
  intro hf c a w h1 h2 h3
  refine wp_region_list ?_
  have hfit : ∀ o' ∈ ops.toList, ∀ d, o'.dst = some d → d < N := by
    intro o' ho' d hd
    have := List.all_eq_true.1 (show (ops.toList.all _) = true from hf) o' ho'
    simp only [hd, decide_eq_true_eq] at this
    exact this
  have hW : ∀ o' ∈ ops.toList, ∀ d, o'.dst = some d → wr (.region id ops false) d = true := by
    intro o' ho' d hd
    simp only [wr, List.any_eq_true, beq_iff_eq]
    exact ⟨o', ho', hd⟩
  have hm1 : ∀ o' ∈ ops.toList.take i, o' ∈ ops.toList := fun _ h => List.mem_of_mem_take h
  have hm2 : ∀ o' ∈ ops.toList.drop (i + 1), o' ∈ ops.toList := fun _ h => List.mem_of_mem_drop h
  have hm0 : o ∈ ops.toList := by rw [ho]; simp
  have fit1 : ∀ l : List Oper, (∀ o' ∈ l, o' ∈ ops.toList) → fitsOps N l = true := by
    intro l hl
    refine List.all_eq_true.2 fun o' ho' => ?_
    cases hd : o'.dst with
    | none => rfl
    | some d => exact decide_eq_true (hfit o' (hl o' ho') d hd)
  have key := POps_okR (P := P) (N := N) (rest := o :: ops.toList.drop (i + 1)) (full := ops) (Q := fun e a' w' => PostW π N (wr (.region id ops false)) E c m w a (Q e) a' w') (W := wr (.region id ops false)) (E0 := E) (c0 := c) (m0 := m) (w0 := w) (a0 := a) (K := fun k' E' m' => X (k' :: π) E' m' (fun v m2 => POps P ops.toList π (Q .normal) (ops.toList.drop (i + 1)) (k' + 1) (putE o.dst v E') m2)) (fun a' w' hp => ?_) (ops.toList.take i) k E c m w a h (fit1 _ hm1) h1 h2 h3 (.refl π c m w) rfl (fun _ _ => rfl) (fun o' ho' => hW o' (hm1 o' ho'))
  · rw [← ho] at key; exact key
  · obtain ⟨c', k', E', m', hX', hR', hE1, hE', hF', hd', hU'⟩ := hp
    refine BigFrame.wpList_want (by simp [Region.wanted, hg]) fun K' hK' => ?_
    refine Oper.wp_mono ?_ (hX hX' hR' hE' hF'.at_ (hfit o hm0) _)
    rintro a2 w2 ⟨c2, v, m2, hC, g1, g2, g3, g4⟩
    refine hK' a2 w2 (POps_ok (W := wr (.region id ops false)) (E0 := E) (c0 := c) (m0 := m) (w0 := w) (a0 := a) (fun a' w' hp => hp) _ _ _ c2 m2 w2 a2 hC (fit1 _ hm2) g1 g3 (g2.freshK hF') (hE1.trans g2.up) (g4.trans hd') (fun t ht => ?_) (fun o' ho' => hW o' (hm2 o' ho')))
    cases hdo : o.dst with
    | none => exact hU' t ht
    | some d =>
      have := hW o hm0 d hdo
      show (if t = d then v else E' t) = E t
      rw [if_neg (by rintro rfl; rw [ht] at this; cases this)]; exact hU' t ht
/-- cells that own nothing -/
def plain (vs : List V) : Prop := ∀ v ∈ vs, v.isSelf = false ∧ v.raw0 = v
theorem plain.app {xs ys : List V} (h : plain xs) (k : plain ys) : plain (xs ++ ys) := fun v hv => (List.mem_append.1 hv).elim (h v) (k v)
theorem plain.take {xs : List V} (h : plain xs) (n : Nat) : plain (xs.take n) := fun v hv => h v (List.mem_of_mem_take hv)
theorem plain.drop {xs : List V} (h : plain xs) (n : Nat) : plain (xs.drop n) := fun v hv => h v (List.mem_of_mem_drop hv)
theorem plain.tops (n : Nat) : plain (List.replicate n .top) := fun v hv => by rw [(List.mem_replicate.1 hv).2]; exact ⟨rfl, rfl⟩
theorem plain.raw {xs : List V} (h : plain xs) : xs.map V.raw0 = xs := by
  have : xs.map V.raw0 = xs.map id := List.map_congr_left fun v hv => (h v hv).2
  rw [this, List.map_id]
theorem plain.lds {xs : List V} (h : plain xs) {f : Nat → Nat} {id : Pa} : lds f id xs = xs := by
  apply List.ext_getElem?
  intro i
  unfold Abs.lds
  rw [List.getElem?_mapIdx]
  cases hx : xs[i]? with
  | none => rfl
  | some v => simp only [Option.map_some]; rw [V.ld_of (h v (List.mem_of_getElem? hx)).1]
theorem CR.rep_tops {n : Nat} {cs : List Value} (h : cs.length = n) : CR c (List.replicate n .top) cs := CR.tops (by simpa using h.symm) fun v hv => (List.mem_replicate.1 hv).2
theorem buildSlice_cells {T : TypeId} {n : Nat} {ps : List (Nat × V)} {C : V → Prop} (hs : sbuildSlice P T n ps C) (h : Rep c m w) {qs : Array (Nat × Value)} (hp : CP c ps qs.toList) :
    ∃ es e, P.underlying T = some (.slice e) ∧ (Instr.buildSlice T n qs).run P w = .ok (.slice (some ⟨w.heap.size, 0, none⟩) n n) (w.alloc (.cells es.toArray e)) ∧ CR c (ps.map fun p => p.2.cells.map V.shared).flatten es ∧ (∀ u ∈ es, u.oneCell' = true) ∧ n ≤ maxLen := by
  unfold sbuildSlice at hs
  split at hs
  · rename_i e hu
    split at hs
    · rename_i s zs hsz hzc
      obtain ⟨h1, h2, h3, h4, hC⟩ := hs
      obtain ⟨z, hz1, hz2, hz3⟩ := zcells_ok hzc c
      obtain ⟨k1, k2⟩ := hp.split
      have hlenp : ps.length = n := by have := congrArg List.length h1; simpa using this
      have hlenq : qs.toList.length = n := by have := congrArg List.length k1; simp only [List.length_map] at this; omega
      have hq : qs.size = n := by simpa using hlenq
      have hzip := zip_fst qs.toList 0 (by rw [k1, h1, hlenq, List.range_eq_range'])
      have hvs : ∀ v ∈ qs.toList.map Prod.snd, v.cells.size = s := by
        intro v hv
        obtain ⟨i, hi, hvi⟩ := List.mem_iff_getElem.1 hv
        have hi' : i < (ps.map Prod.snd).length := by have := k2.len; omega
        obtain ⟨x, hx1, hx2⟩ := k2.get (List.getElem?_eq_getElem hi')
        have hxv : x = v := by rw [List.getElem?_eq_getElem hi, hvi] at hx1; injection hx1 with e; exact e.symm
        subst hxv
        obtain ⟨p, hp1, hp2⟩ : ∃ p ∈ ps, p.2 = (ps.map Prod.snd)[i] := by
          have := List.getElem_mem hi'
          obtain ⟨p, hp1, hp2⟩ := List.mem_map.1 this
          exact ⟨p, hp1, hp2⟩
        obtain ⟨g1, g2⟩ := h4 p hp1
        rw [← hp2] at hx2
        have := (cells_ok hx2 g1).1.len
        simp at this; omega
      obtain ⟨r1, r2⟩ := rows_ok k2 (fun v hv => by obtain ⟨p, hp1, rfl⟩ := List.mem_map.1 hv; exact (h4 p hp1).1)
      have hfill := fill_seq (size := s) (qs.toList.map Prod.snd) 0 [] ((Array.range (n * s)).map ((if n * s = 0 then #[] else z.cells)[· % (if n * s = 0 then #[] else z.cells).size]!)).toList hvs (by simp) (by simp [hq])
      rw [← hzip] at hfill
      simp only [List.nil_append, Array.toArray_toList] at hfill
      have hrl : (ps.map fun p => p.2.cells.map V.shared).length = n := by simpa using hlenp
      have hrr : (ps.map fun p => p.2.cells.map V.shared) = ((ps.map Prod.snd).map fun v => v.cells.map V.shared) := by simp
      refine ⟨_, e, hu, ?_, by rw [hrr]; exact r1, r2, by simp only [maxLen]; have := Nat.le_mul_of_pos_right n h2; omega⟩
      unfold Instr.buildSlice
      simp only [Sem.run_bind, run_underlying hu, Result.andThen_ok, run_sizeT hsz]
      rw [if_neg (by omega)]
      by_cases h0 : n * s = 0
      · have hn0 : n = 0 := by
          rcases Nat.mul_eq_zero.1 h0 with h | h
          · exact h
          · omega
        obtain rfl : qs = #[] := Array.eq_empty_of_size_eq_zero (by omega)
        simp [h0, Instr.fill, newRow, show (Array.range 0 : Array Nat) = #[] from rfl]
      · simp only [h0, if_false] at hfill ⊢
        simp [hz1 w, hfill, newRow]
    · exact hs.elim
  · exact hs.elim


def XLit (P : Program) (T : TypeId) (n : Nat) (ps : List (Nat × Operand)) (q : Pa) (E : Env) (m : M) (C : V → M → Prop) : Prop :=
  0 < n ∧ plain (ps.map fun p => (ev m E p.2).cells.map V.shared).flatten ∧ sbuildSlice P T n (ps.map fun p => (p.1, ev m E p.2)) fun _ => C (.arr q 0 n n) (m.set q (ps.map fun p => (ev m E p.2).cells.map V.shared).flatten)
theorem sbuildSlice_C {T : TypeId} {n : Nat} {ps : List (Nat × V)} {C : V → Prop} (hs : sbuildSlice P T n ps C) : ∃ v, C v := by
  unfold sbuildSlice at hs
  split at hs
  · split at hs
    · exact ⟨_, hs.2.2.2.2⟩
    · exact hs.elim
  · exact hs.elim
theorem XLit_ok {o : Oper} {T : TypeId} {n : Nat} {ps : Array (Nat × Operand)} (ho : o.op = .buildSlice T n ps) {q : Pa} {C : V → M → Prop} (hx : XLit P T n ps.toList q E m C) (h : Rep c m w) (hE : EnvOk c E a N) (hf : FreshU c q) (hd : ∀ d, o.dst = some d → d < N) (Q : Exit → Act → World → Prop) : o.wp P a w (Post1 q N o c E m w a C) Q := by
  obtain ⟨dst, op, ty, pos, after, guard⟩ := o
  obtain rfl : op = .buildSlice T n ps := ho
  obtain ⟨hn, hp, hs⟩ := hx
  obtain ⟨es, e, hu, hrun, k1, k2, k3⟩ := buildSlice_cells (P := P) hs h (qs := ps.map fun (i, x) => (i, a.eval x)) (by simpa using evps_ok hE h ps.toList)
  obtain ⟨_, hC⟩ := sbuildSlice_C hs
  rw [List.map_map] at k1
  replace k1 : CR c (ps.toList.map fun p => (ev m E p.2).cells.map V.shared).flatten es := k1
  obtain ⟨g1, g2⟩ := h.new (q := q) hf.at_ k1 k2 e
  rw [plain.raw hp] at g1 g2
  refine post_value hE hd ?_ hC g1 g2 (.arr (b := w.heap.size) ?_ (Nat.le_refl _) k3 .nil)
  · show Sem.run P (do pure (Next.value (← Instr.buildSlice T n (ps.map fun (i, x) => (i, a.eval x))))) w = _
    rw [Sem.run_bind, hrun]; rfl
  · show (if q = q then some w.heap.size else c.ρ q) = _
    rw [if_pos rfl]
/-- what is appended -/
inductive NewsM (P : Program) (m : M) (n : Nat) (u : TypeId) : V → Nat → List V → Prop
  | list {e o rows} : P.underlying u = some (.slice e) → (∀ r ∈ rows, r.length = n) → NewsM P m n u (.list o rows) rows.length rows.flatten
  | arr {e id len cap cs} : P.underlying u = some (.slice e) → m.blk id = some cs → plain cs → len * n ≤ cs.length → NewsM P m n u (.arr id 0 len cap) len (cs.take (len * n))
theorem NewsM.ok {n k : Nat} {u : TypeId} {v : V} {fl : List V} (hn : NewsM P m n u v k fl) (h : Rep c m w) {x : Value} (hv : CR c [v] [x]) : ∃ news, CR c fl news ∧ News P w n u x k news := by
  cases hn with
  | @list e o rows hu hr =>
    obtain ⟨a, cap, es, sz, rfl, k1, k2, kz, k3, k4, k5, k6, kc, k7⟩ := hv.inv_list
    exact ⟨es, k1, News.book h.com hu (by simp) (flat_len k1 hr) k6 kc⟩
  | @arr e id _ cap cs hu hb hp hl =>
    obtain ⟨b, hr, rfl, h1, h2⟩ := hv.inv_arr
    obtain ⟨b', vals, t, hr', hB, k1, k2, k3⟩ := h.blk id cs hb
    rw [hr] at hr'; injection hr' with e'; subst e'
    rw [hp.lds] at k1
    have hlen := k1.len
    have ht : (vals.toList.take (k * n)).length = k * n := by rw [List.length_take]; omega
    have hcell : ∀ (w' : World), Blk w' b t vals → (Builtin.firstCells n k (.slice (some ⟨b, 0, none⟩) k cap)).run P w' = .ok (vals.toList.take (k * n)).toArray w' := by
      intro w' hB'
      refine run_firstCells_some w' n k _ k cap _ ht fun j v hv => ?_
      rw [addr_add, hB'.cell]
      rw [List.getElem?_take] at hv
      split at hv
      · simpa using hv
      · cases hv
    exact ⟨_, k1.take _, ⟨_, hu, by simp⟩, rfl, hcell w hB, hcell w.drew hB.drew, ht, fun u hu' => k3 u (List.mem_of_mem_take hu')⟩
def XApp (P : Program) (t u : TypeId) (s x : Operand) (q : Pa) (E : Env) (m : M) (C : V → M → Prop) : Prop :=
  ∃ e n zs by_ id len cap cs k fl, P.underlying t = some (.slice e) ∧ sizeT P e = some n ∧ zcells P e = some zs ∧ (P.info? e).map (·.bytes) = some by_ ∧ ev m E s = .arr id 0 len cap ∧ m.blk id = some cs ∧ NewsM P m n u (ev m E x) k fl ∧
    0 < n ∧ by_ ≤ 65536 ∧ zs.length = n ∧ cs.length = cap * n ∧ plain cs ∧ plain fl ∧ len + k ≤ 1073741824 ∧
    (len + k ≤ cap → C (.arr id 0 (len + k) cap) (m.set id (cs.take (len * n) ++ fl ++ cs.drop (len * n + fl.length)))) ∧
    ∀ cap', len + k ≤ cap' → C (.arr q 0 (len + k) cap') (m.set q (cs.take (len * n) ++ fl ++ List.replicate ((cap' - (len + k)) * n) .top))
theorem XApp_ok {o : Oper} {t u : TypeId} {s x : Operand} (ho : o.op = .call ⟨.builtin .append, #[s, x], #[t, u]⟩) {q : Pa} {C : V → M → Prop} (hx : XApp P t u s x q E m C) (h : Rep c m w) (hE : EnvOk c E a N) (hf : FreshU c q) (hd : ∀ d, o.dst = some d → d < N) (Q : Exit → Act → World → Prop) : o.wp P a w (Post1 q N o c E m w a C) Q := by
  obtain ⟨dst, op, ty, pos, after, guard⟩ := o
  obtain rfl : op = .call ⟨.builtin .append, #[s, x], #[t, u]⟩ := ho
  obtain ⟨e, n, zs, by_, id, len, cap, cs, k, fl, ht, hsz, hzc, hby, hs, hb, hn, h0, h1, hzl, hcl, hp, hpf, hk, hC1, hC2⟩ := hx
  have hsv := hE.ev h s
  rw [hs] at hsv
  obtain ⟨b, hr, hse, hlc, hcm⟩ := hsv.inv_arr
  obtain ⟨news, kn, hnews⟩ := hn.ok h (hE.ev h x)
  obtain ⟨b', vals, t', hr', hB, k1, k2, k3⟩ := h.blk id cs hb
  rw [hr] at hr'; injection hr' with e'; subst e'
  rw [hp.lds] at k1
  have hvl := k1.len
  have hnl := hnews.size
  have hfl := kn.len
  unfold sizeT at hsz
  cases hi : P.info? e with
  | none => simp [hi] at hsz
  | some i =>
    simp only [hi, Option.map_some, Option.some.injEq] at hsz hby
    subst hsz hby
    obtain ⟨z, hz⟩ : ∃ z, i.zero = some z := by
      unfold zcells zT at hzc
      simp only [hi, Option.bind_some] at hzc
      cases hq : i.zero with
      | none => simp [hq] at hzc
      | some z => exact ⟨z, rfl⟩
    have hzs : z.cells.size = i.size ∧ ∀ u ∈ z.cells.toList, u.oneCell' = true := by
      unfold zcells zT at hzc
      simp only [hi, Option.bind_some, hz] at hzc
      split at hzc
      · rename_i hone
        injection hzc with hzc
        exact ⟨by rw [← hzl, ← hzc]; simp, List.all_eq_true.1 hone⟩
      · cases hzc
    have hle : len * i.size + k * i.size ≤ (len + k) * i.size := by rw [Nat.add_mul]; exact Nat.le_refl _
    have hfin : ∀ {v : V} {m' : M} {x' : Value} {w' : World}, (Builtin.append_ #[t, u] ty #[a.eval s, a.eval x]).run P w = .ok x' w' → C v m' → ∀ c', Rep c' m' w' → Ext q c m w c' m' w' → CR c' [v] [x'] → Oper.wp P ⟨dst, .call ⟨.builtin .append, #[s, x], #[t, u]⟩, ty, pos, after, guard⟩ a w (Post1 q N ⟨dst, .call ⟨.builtin .append, #[s, x], #[t, u]⟩, ty, pos, after, guard⟩ c E m w a C) Q := by
      intro v m' x' w' hrun hC c' g1 g2 g3
      refine post_value hE hd ?_ hC g1 g2 g3
      show Sem.run P (do let d ← resolve a.eval ⟨.builtin .append, #[s, x], #[t, u]⟩ ty; invoke d.target d.args) w = _
      simp only [resolve, invoke, builtin, Sem.run_bind, Sem.run_pure, Result.andThen_ok, List.map_toArray, List.map_cons, List.map_nil, hrun]
    rw [hse] at hfin
    by_cases hroom : len + k ≤ cap
    · have hle2 : (len + k) * i.size ≤ cap * i.size := Nat.mul_le_mul_right _ hroom
      rw [Nat.add_mul] at hle2
      have hrun := run_app_room (P := P) (w := w) t u ty e i ht hi hB hnews hroom (by rw [← Array.length_toList]; omega)
      obtain ⟨cur', hcur'⟩ : ∃ cur', cur' = (vals.toList.take (len * i.size) ++ news ++ vals.toList.drop (len * i.size + news.length)).toArray := ⟨_, rfl⟩
      rw [← hcur'] at hrun
      have hg : w.grownBy (w.setRow b cur') (some b) := ⟨rfl, rfl, rfl, by simp, fun k _ hk => setRow_other w b k _ (fun e => hk (by rw [e]))⟩
      have hpl := (hp.take (len * i.size)).app hpf |>.app (hp.drop (len * i.size + fl.length))
      obtain ⟨g1, g2⟩ := h.plain (q := q) hb hr hB (setRow_heap w b vals cur' t' (0, 0) hB) hg (vs' := cs.take (len * i.size) ++ fl ++ cs.drop (len * i.size + fl.length)) (by
        rw [hpl.lds, hcur', ← hfl]
        exact ((k1.take _).append kn).append (k1.drop _)) (by
        rw [hcur']
        intro u hu
        rcases List.mem_append.1 hu with hu | hu
        · rcases List.mem_append.1 hu with hu | hu
          · exact k3 u (List.mem_of_mem_take hu)
          · exact hnews.one u hu
        · exact k3 u (List.mem_of_mem_drop hu)) (fun off rows ho => by
        have := (hpl _ (List.mem_of_getElem? ho)).1
        cases this)
      exact hfin hrun (hC1 hroom) c g1 g2 (.arr hr hroom hcm .nil)
    · have hlt : cap < len + k := by omega
      have hbig : (len + k) * i.bytes ≤ 140737488355328 := by
        have := Nat.mul_le_mul hk h1; omega
      have hm' : len + k ≤ maxLen := by simp only [maxLen]; omega
      have hold : (Builtin.firstCells i.size len (.slice (some ⟨b, 0, none⟩) len cap)).run P w.drew = .ok (vals.toList.take (len * i.size)).toArray w.drew := by
        have hle2 : len * i.size ≤ cap * i.size := Nat.mul_le_mul_right _ hlc
        refine run_firstCells_some w.drew i.size len _ len cap _ (by rw [List.length_take]; omega) fun j v hv => ?_
        rw [addr_add, hB.drew.cell]
        rw [List.getElem?_take] at hv
        split at hv
        · simpa using hv
        · cases hv
      have hrun := run_app_full (P := P) w t u ty e i z ht hi hz hold hnews hlt hbig (by omega)
      have hge := grownCap_ge w (len + k) cap e
      have hcmx := grownCap_le_maxLen w (len + k) cap e hm'
      obtain ⟨cap', hcap'⟩ : ∃ cap', cap' = grownCap w (len + k) cap e := ⟨_, rfl⟩
      rw [← hcap'] at hrun hge hcmx
      have hpl : plain (cs.take (len * i.size) ++ fl ++ List.replicate ((cap' - (len + k)) * i.size) .top) := ((hp.take _).app hpf).app (.tops _)
      have hD := h.drewN 1
      have hz1 : ((Builtin.zeroCells z.cells (cap' - (len + k))).toList).length = (cap' - (len + k)) * i.size := by
        rw [Array.length_toList, size_zeroCells, hzs.1]
      obtain ⟨g1, g2⟩ := hD.new (q := q) hf.at_ (vs := cs.take (len * i.size) ++ fl ++ List.replicate ((cap' - (len + k)) * i.size) .top) (cs := vals.toList.take (len * i.size) ++ news ++ (Builtin.zeroCells z.cells (cap' - (len + k))).toList) (((k1.take _).append kn).append (CR.rep_tops hz1)) (by
        intro u hu
        rcases List.mem_append.1 hu with hu | hu
        · rcases List.mem_append.1 hu with hu | hu
          · exact k3 u (List.mem_of_mem_take hu)
          · exact hnews.one u hu
        · unfold Builtin.zeroCells at hu
          rw [Array.toList_map, List.mem_map] at hu
          obtain ⟨j, _, rfl⟩ := hu
          have hj : j % z.cells.size < z.cells.size := Nat.mod_lt _ (by rw [hzs.1]; exact h0)
          rw [getElem!_pos z.cells _ hj]
          exact hzs.2 _ (Array.getElem_mem_toList hj)) e
      rw [hpl.raw] at g1 g2
      have harr : (vals.toList.take (len * i.size) ++ news ++ (Builtin.zeroCells z.cells (cap' - (len + k))).toList).toArray = (vals.toList.take (len * i.size)).toArray ++ news.toArray ++ Builtin.zeroCells z.cells (cap' - (len + k)) := by
        apply Array.ext'
        simp [List.append_assoc]
      rw [harr] at g1 g2
      refine hfin hrun (hC2 cap' hge) _ g1 ((Ext.drewN q c m w 1).trans g2) (.arr (b := w.heap.size) ?_ hge hcmx .nil)
      show (if q = q then some w.heap.size else c.ρ q) = _
      rw [if_pos rfl]
end
end Go.Proofs.YtolhahlnccekcaaDoor.Abs
