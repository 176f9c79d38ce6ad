/-
  Own helper theorems of no one function: a block that a call keeps to itself, beside a memory seen from above.
-/
import Derived.Test.YtolhahlnccekcaaDoorPwSv1
import Derived.Test.YtolhahlnccekcaaDoorPwS5
namespace Go.Proofs.YtolhahlnccekcaaDoor.Abs
open Go.RowKit
set_option linter.unusedVariables false
/-- texts, each with a line's end -/
def severalL {α : Type} (f : α → Option Str) : List α → Str → Option Str
  | [], s => some s
  | x :: l, s => (f x).bind fun y => need (y.length + 1 ≤ 4611686018427387904 ∧ s.length + (y.length + 1) ≤ 70368744177664) <| severalL f l (s ++ (y ++ [10]))
section
variable {P : Program} {ops : Array Oper} {Q : Exit → Act → World → Prop} {a : Act} {w : World}
theorem wpList_call {rest : List Oper} {o : Oper} (hgd : o.guard = none) {f : FuncId} {xs : Array Value} (hrun : (execOp a.eval o).run P w = .ok (.enter f xs) w)
    (hC : Calls P f xs w (fun e w' => ∃ x, e = .returned x ∧ wpList P ops Q rest (a.put o.dst x) w')) : wpList P ops Q (o :: rest) a w := by
  refine wpList_plain hgd fun K hK => ?_
  unfold Oper.wp
  rw [hrun]
  exact hC.mono fun e w' ⟨x, he, h⟩ => by subst he; exact hK _ _ h
end
section
variable {c c' c0 : Conc} {m m' m0 : M} {w w' w0 : World} {b B : Nat} {r : Option Nat} {v : Value} {S : Str} {π q : Pa}
theorem Rep.fr (h : Rep c m w) (hf : Fr b r w w') (hC : Com w' c.G) (hb : ¬ Owned c m b) (hr : ∀ k, r = some k → ¬ Owned c m k) : Rep c m w' := by
  have key : ∀ b' t cs, Owned c m b' → Blk w b' t cs → Blk w' b' t cs := fun b' t cs ho hB => by
    have := hf.block b' hB.lt (fun e => hb (e ▸ ho)) (fun e => hr _ e ho)
    exact this.trans hB
  refine ⟨hC, fun id vs hv => ?_, h.inj, fun s b' cap sz len hl hk => ?_, h.ownInj, h.ver, h.gl, h.ver0, Nat.le_trans h.base hf.size, fun b hb => ⟨(h.lit b hb).1, Nat.lt_of_lt_of_le (h.lit b hb).2.1 hf.size, (h.lit b hb).2.2⟩⟩
  · obtain ⟨b', cs, t, hr', hB, h1, h2, h3⟩ := h.blk id vs hv
    exact ⟨b', cs, t, hr', key _ _ _ (.inl ⟨id, by rw [hv]; simp, hr'⟩) hB, h1, h2, h3⟩
  · obtain ⟨⟨cs, t, hB, hs⟩, h1⟩ := h.own s b' cap sz len hl hk
    exact ⟨⟨cs, t, key _ _ _ (.inr ⟨s, cap, sz, len, hl, hk⟩) hB, hs⟩, h1⟩
theorem Ext.fr (h : Abs.Ext q c0 m0 w0 c m w) (hf : Fr b r w w') (hb : w0.heap.size ≤ b) (hr : ∀ k, r = some k → w0.heap.size ≤ k) : Abs.Ext q c0 m0 w0 c m w' :=
  ⟨h.le, hf.os.trans h.os, hf.tape.trans h.tape, hf.output.trans h.output, Nat.le_trans h.size hf.size,
   fun b' hb' ho hx => (hf.block b' (Nat.lt_of_lt_of_le hb' h.size) (by omega) (fun e => by have := hr _ e; omega)).trans (h.heap b' hb' ho hx), h.book, h.own, h.fresh, h.keep, h.lits⟩
/-- a builder that nobody else knows -/
structure JJ (B b : Nat) (v : Value) (S : Str) (c : Conc) (m : M) (w : World) : Prop where
  bb : BB B b c.G v S w
  nb : ¬ Owned c m b
  ng : ∀ g, v.ownBlock = some g → ¬ Owned c m g
theorem ownsRow_same {n size : Nat} {e : TypeId} {xs : List Value} (h : w.ownsRow B e size v n xs) (hs : ∀ g, v.ownBlock = some g → w'.heap[g]? = w.heap[g]?) : w'.ownsRow B e size v n xs :=
  ⟨h.1, h.2.imp (fun x => x) fun ⟨g, cap, cur, e1, hb, hg, rest⟩ => ⟨g, cap, cur, e1, hb, (hs g (by rw [e1]; rfl)).trans hg, rest⟩⟩
theorem JJ.ext (h : JJ B b v S c m w) (hx : Abs.Ext π c m w c' m' w') : JJ B b v S c' m' w' := by
  have hlt := h.bb.lt
  have hgl : ∀ g, v.ownBlock = some g → g < w.heap.size := fun g hg => (h.bb.row.lt hg).2
  have hgo : ∀ g, v.ownBlock = some g → Out c.G g := fun g hg => h.bb.row.out g hg
  refine ⟨⟨h.bb.le, ?_, ⟨?_, fun g hg o => (hx.book g (hgl g hg) (h.ng g hg) o).trans (hgo g hg o)⟩, h.bb.ne, fun o => (hx.book b hlt h.nb o).trans (h.bb.out o)⟩, fun ho => h.nb (hx.own b hlt ho), fun g hg ho => h.ng g hg (hx.own g (hgl g hg) ho)⟩
  · obtain ⟨p, hp, hb⟩ := h.bb.cells
    exact ⟨p, hp, (hx.heap b hlt h.nb (.inr h.bb.out)).trans hb⟩
  · obtain ⟨⟨xs, ho, hr⟩, _⟩ := h.bb.row
    exact ⟨xs, ownsRow_same ho fun g hg => hx.heap g (hgl g hg) (h.ng g hg) (.inr (hgo g hg)), hr.mono hx.le.G⟩
end
end Go.Proofs.YtolhahlnccekcaaDoor.Abs
namespace Go.Proofs.YtolhahlnccekcaaDoor.Abs
open Go.RowKit
set_option linter.unusedVariables false
set_option linter.unusedSimpArgs false
section
variable {P : Program} {c c' : Conc} {m m' : M} {w w' : World} {E : Env} {a : Act} {N : Nat}
theorem POps_okR {rest : List Oper} {full : Array Oper} {π : Pa} {K : Nat → Env → M → Prop} {Q : Exit → Act → World → Prop} {c0 : Conc} {m0 : M} {w0 : World} {a0 : Act} {W : Nat → Bool} {E0 : Env} (hQ : ∀ a' w', PostW π N W E0 c0 m0 w0 a0 K a' w' → wpList P full Q rest a' w') :
    ∀ (ops : List Oper) (k : Nat) (E : Env) (c : Conc) (m : M) (w : World) (a : Act), POps P full.toList π K ops k E m → fitsOps N ops = true → Rep c m w → EnvOk c E a N → FreshK c π k → Ext π c0 m0 w0 c m w → a.defers = a0.defers → (∀ t, W t = false → E t = E0 t) → (∀ o ∈ ops, ∀ d, o.dst = some d → W d = true) → wpList P full Q (ops ++ rest) a w := by
  intro ops
  induction ops with
  | nil => intro k E c m w a hs _ hR hE hF hX hd hU _; exact hQ a w ⟨c, k, E, m, hs, hR, hX, hE, hF, hd, hU⟩
  | cons o os ih =>
    intro k E c m w a hs hfit hR hE hF hX hd hU hW
    have hU' : ∀ v t, W t = false → putE o.dst v E t = E0 t := by
      intro v t ht
      cases hdo : o.dst with
      | none => exact hU t ht
      | some d =>
        have := hW o (by simp) d hdo
        show (if t = d then v else E t) = E0 t
        rw [if_neg (by rintro rfl; rw [ht] at this; cases this)]; exact hU t ht
    have hW' : ∀ o' ∈ os, ∀ d, o'.dst = some d → W d = true := fun o' ho' => hW o' (by simp [ho'])
    simp only [fitsOps, List.all_cons, Bool.and_eq_true] at hfit
    have hfo : ∀ d, o.dst = some d → d < N := by
      intro d h; have := hfit.1; rw [h] at this; simpa using this
    have run : Region.wanted o (yielded full a.tmps) = true → stepOp P o (k :: π) E m (fun v m' => POps P full.toList π K os (k + 1) (putE o.dst v E) m') → wpList P full Q (o :: (os ++ rest)) a w := by
      intro hw hst
      refine BigFrame.wpList_want hw fun K' hK' => ?_
      refine Oper.wp_mono ?_ (stepOp_ok (N := N) hst hR hE hF.at_ hfo Q)
      rintro a' w' ⟨c', v, m', hC, h1, h2, h3, h4⟩
      exact hK' a' w' (ih _ _ c' m' w' a' hC hfit.2 h1 h3 (h2.freshK hF) (hX.trans h2.up) (h4.trans hd) (hU' _) hW')
    simp only [POps] at hs
    rw [List.cons_append]
    split at hs
    · rename_i hg
      exact run (by simp [Region.wanted, hg]) hs
    · rename_i j b hg
      split at hs
      · rename_i d hdst
        split at hs
        · rename_i t ht
          have hy : yielded full a.tmps j = some t := by
            have hv := hE.at_ d
            rw [ht] at hv
            have hv' := hv.inv_lit
            unfold yielded
            have : (full[j]?).bind (·.dst) = some d := by simpa using hdst
            rw [this]
            simp only [Option.bind_some]
            have hdl : a.tmps[d]? = some (.bool t) := by
              rw [Array.getD_eq_getD_getElem?] at hv'
              cases hq : a.tmps[d]? with
              | none => rw [hq] at hv'; simp [undef] at hv'
              | some u => rw [hq] at hv'; simp at hv'; rw [hv']
            rw [hdl]
          split at hs
          · rename_i hb
            exact run (by simp [Region.wanted, hg, hy, hb]) hs
          · rename_i hb
            have hw : Region.wanted o (yielded full a.tmps) = false := by simp [Region.wanted, hg, hy, hb]
            unfold wpList
            rw [if_neg (by simp [hw])]
            exact ih _ _ c m w _ hs hfit.2 hR (hE.put (.lit .nil) hfo) (hF.le (by omega)) hX ((put_defers _ _ _).trans hd) (hU' _) hW'
        · rename_i vs ht
          have hy : yielded full a.tmps j = none := by
            have hv := hE.at_ d
            rw [ht] at hv
            have hv' := hv.inv_lit
            unfold yielded
            have : (full[j]?).bind (·.dst) = some d := by simpa using hdst
            rw [this]
            simp only [Option.bind_some]
            rw [Array.getD_eq_getD_getElem?] at hv'
            cases hq : a.tmps[d]? with
            | none => rfl
            | some u => rw [hq] at hv'; simp only [Option.getD_some] at hv'; rw [hv']
          have hw : Region.wanted o (yielded full a.tmps) = false := by simp [Region.wanted, hg, hy]
          unfold wpList
          rw [if_neg (by simp [hw])]
          exact ih _ _ c m w _ hs hfit.2 hR (hE.put (.lit .nil) hfo) (hF.le (by omega)) hX ((put_defers _ _ _).trans hd) (hU' _) hW'
        · exact hs.elim
      · exact hs.elim
/-- cells that own nothing -/
def plain (vs : List V) : Prop := ∀ v ∈ vs, v.isSelf = false ∧ v.raw0 = v
/-- what is appended -/
inductive NewsM (P : Program) (m : M) (n : Nat) (u : TypeId) : V → Nat → List V → Prop
  | list {e o rows} : P.underlying u = some (.slice e) → (∀ r ∈ rows, r.length = n) → NewsM P m n u (.list o rows) rows.length rows.flatten
  | arr {e id len cap cs} : P.underlying u = some (.slice e) → m.blk id = some cs → plain cs → len * n ≤ cs.length → NewsM P m n u (.arr id 0 len cap) len (cs.take (len * n))
end
end Go.Proofs.YtolhahlnccekcaaDoor.Abs
namespace Go.Proofs.YtolhahlnccekcaaDoor.Abs
open Go.RowKit
set_option linter.unusedVariables false
structure At (N : Nat) (q : Pa) (c0 : Conc) (m0 : M) (w0 : World) (a0 : Act) (b : Nat) (S : Str) (U : Pa → Prop) (π : Pa) (k : Nat) (E : Env) (m : M) (c : Conc) (a : Act) (w : World) : Prop where
  rep : Rep c m w
  env : EnvOk c E a N
  ext : Abs.Ext q c0 m0 w0 c m w
  fr : FreshK c π k
  up : ∀ id, U id → FreshAt c id
  jj : ∃ v, JJ w0.heap.size b v S c m w
  df : a.defers = a0.defers
/-- behind it -/
structure PostW0 (N : Nat) (q : Pa) (c0 : Conc) (m0 : M) (w0 : World) (a0 : Act) (π : Pa) (k : Nat) (E : Env) (m : M) (c : Conc) (a : Act) (w : World) : Prop where
  rep : Rep c m w
  env : EnvOk c E a N
  ext : Abs.Ext q c0 m0 w0 c m w
  fr : FreshK c π k
  df : a.defers = a0.defers
theorem Com.fr {w w' : World} {G : GG} {b : Nat} {r : Option Nat} (h : Com w G) (hf : Fr b r w w') (hb : Out G b) (hr : ∀ g, r = some g → Out G g) : Com w' G := by
  intro b' o v hv
  have e := hf.block b' (h.lt hv) (fun e => by subst e; rw [hb o] at hv; cases hv) (fun e => by have := hr _ e o; rw [this] at hv; cases hv)
  have k := h b' o v hv
  unfold World.cell? at *
  simp only [e]
  exact k
section
variable {N : Nat} {q π : Pa} {c0 c : Conc} {m0 m : M} {w0 w : World} {a0 a : Act} {b k : Nat} {S : Str} {U : Pa → Prop} {E : Env}
theorem At.ops (h : At N q c0 m0 w0 a0 b S U π k E m c a w) {P : Program} {full : Array Oper} {pre rest : List Oper} {K : Nat → Env → M → Prop} (hs : POps P full.toList π K pre k E m) (hf : fitsOps N pre = true) (hπ : q <:+ π) (hU : ∀ id, U id → ¬ π <:+ id) {R : Exit → Act → World → Prop}
    (hq : ∀ k' E' m' c' a' w', K k' E' m' → At N q c0 m0 w0 a0 b S U π k' E' m' c' a' w' → (∀ t, (pre.any fun o => o.dst == some t) = false → E' t = E t) → wpList P full R rest a' w') : wpList P full R (pre ++ rest) a w := by
  obtain ⟨v, hv⟩ := h.jj
  refine POps_okR (N := N) (W := fun t => pre.any fun o => o.dst == some t) (E0 := E) (c0 := c) (m0 := m) (w0 := w) (a0 := a) ?_ pre k E c m w a hs hf h.rep h.env h.fr (.refl π c m w) rfl (fun _ _ => rfl) ?_
  · rintro a' w' ⟨c', k', E', m', h1, h2, h3, h4, h5, h6, h7⟩
    exact hq k' E' m' c' a' w' h1 ⟨h2, h4, h.ext.trans (h3.widen fun id hid => hπ.trans hid), h5, fun id hid => h3.fresh id (hU id hid) (h.up id hid), ⟨v, hv.ext h3⟩, h6.trans h.df⟩ h7
  · intro o ho d hd
    exact List.any_eq_true.2 ⟨o, ho, by simp [hd]⟩
theorem At.write (h : At N q c0 m0 w0 a0 b S U π k E m c a w) (s : Str) (hlen : S.length + s.length ≤ 70368744177664) {d : Option Nat} (hd : ∀ i, d = some i → i < N) :
    Calls Tryd.prog 94 #[.pointer (some ⟨b, 0, none⟩), .string (bs s)] w fun e w' => ∃ x, e = .returned x ∧ At N q c0 m0 w0 a0 b (S ++ s) U π k (putE d (.lit x) E) m c (a.put d x) w' := by
  obtain ⟨v, hv⟩ := h.jj
  refine (writeString_walk hv.bb h.rep.com s hlen h.ext.size).mono ?_
  rintro e w' ⟨rfl, v', h1, h2, h3, h4⟩
  have hR := h.rep.fr h4 h3 hv.nb hv.ng
  refine ⟨_, rfl, hR, h.env.put (.lit .nil) hd, h.ext.fr h4 hv.bb.le fun g hg => (hv.bb.row.lt hg).1, h.fr, h.up, ⟨v', h1, hv.nb, fun g hg => ?_⟩, (put_defers _ _ _).trans h.df⟩
  rcases h2 with e | ⟨g', e1, e2⟩
  · exact hv.ng g (by rw [← e]; exact hg)
  · rw [e1] at hg
    injection hg with hg
    subst hg
    exact fun ho => absurd (h.rep.own_lt ho) (by omega)
theorem At.told (h : At N q c0 m0 w0 a0 b S U π k E m c a w) {d : Option Nat} (hd : ∀ i, d = some i → i < N) :
    Calls Tryd.prog 95 #[.pointer (some ⟨b, 0, none⟩)] w fun e w' => ∃ x, e = .returned x ∧ x = .string (bs S) ∧ PostW0 N q c0 m0 w0 a0 π k (putE d (.lit x) E) m c (a.put d x) w' := by
  obtain ⟨v, hv⟩ := h.jj
  refine (string_walk hv.bb).mono ?_
  rintro e w' ⟨rfl, h4⟩
  exact ⟨_, rfl, rfl, h.rep.fr h4 (Com.fr h.rep.com h4 hv.bb.out fun g hg => hv.bb.row.out g hg) hv.nb hv.ng, h.env.put (.lit .nil) hd, h.ext.fr h4 hv.bb.le fun g hg => (hv.bb.row.lt hg).1, h.fr, (put_defers _ _ _).trans h.df⟩
/-- a builder that is new -/
theorem At.new (hR : Rep c m w) (hE : EnvOk c E a N) (hX : Abs.Ext q c0 m0 w0 c m w) (hF : FreshK c π k) (hU : ∀ id, U id → FreshAt c id) (hd : a.defers = a0.defers) {d : Option Nat} (hN : ∀ i, d = some i → i < N) :
    At N q c0 m0 w0 a0 w.heap.size [] U π k (putE d (.lit (.pointer (some ⟨w.heap.size, 0, none⟩))) E) m c (a.put d (.pointer (some ⟨w.heap.size, 0, none⟩))) (w.alloc (.cells #[.pointer none, .slice none 0 0] 145 (0, 0))) := by
  have hg : w.grownBy (w.alloc (.cells #[.pointer none, .slice none 0 0] 145 (0, 0))) none := galloc (grefl w none) _
  refine ⟨hR.grown hg, hE.put (.lit .nil) hN, hX.trans (Rep.ext_grown q c m hg), hF, hU, ⟨.slice none 0 0, ⟨hX.size, ⟨_, .inl rfl, heap_alloc_new w _⟩, Row.nil _ _ _ _ _, by simp [Value.ownBlock], hR.com.out (Nat.le_refl _)⟩, fun ho => absurd (hR.own_lt ho) (Nat.lt_irrefl _), fun g hg => by cases hg⟩, (put_defers _ _ _).trans hd⟩
/-- a region, its rest under a name -/
theorem At.reg (h : At N q c0 m0 w0 a0 b S U π k E m c a w) (hπ : q <:+ π) (hU : ∀ id, U id → ¬ π <:+ id) {P : Program} {R : Exit → Act → World → Prop} {id : Nat} {ops : List Oper} (hf : fitsOps N ops = true)
    (hs : ∀ K : Nat → Env → M → Prop, (∀ k' E' m', (∀ c' a' w', At N q c0 m0 w0 a0 b S U π k' E' m' c' a' w' → R .normal a' w') → K k' E' m') → POps P ops π K ops k E m) : (Code.region id ops.toArray false).wp P R a w := by
  refine wp_region_list ?_
  rw [List.toList_toArray]
  have := At.ops h (P := P) (full := ops.toArray) (pre := ops) (rest := []) (K := fun k' E' m' => ∀ c' a' w', At N q c0 m0 w0 a0 b S U π k' E' m' c' a' w' → R .normal a' w') (R := R) (by rw [List.toList_toArray]; exact hs _ fun _ _ _ x => x) hf hπ hU fun k' E' m' c' a' w' hk hat _ => hk c' a' w' hat
  rw [List.append_nil] at this
  exact this
theorem At.regs (h : At N q c0 m0 w0 a0 b S U π k E m c a w) (hπ : q <:+ π) (hU : ∀ id, U id → ¬ π <:+ id) {P : Program} {R : Exit → Act → World → Prop} {id : Nat} {ops : List Oper} (n : Nat) (hf : fitsOps N (ops.take n) = true)
    (hs : ∀ K : Nat → Env → M → Prop, (∀ k' E' m', (∀ c' a' w', At N q c0 m0 w0 a0 b S U π k' E' m' c' a' w' → wpList P ops.toArray R (ops.drop n) a' w') → K k' E' m') → POps P ops π K (ops.take n) k E m) : (Code.region id ops.toArray false).wp P R a w := by
  refine wp_region_list ?_
  rw [List.toList_toArray]
  have := At.ops h (P := P) (full := ops.toArray) (pre := ops.take n) (rest := ops.drop n) (K := fun k' E' m' => ∀ c' a' w', At N q c0 m0 w0 a0 b S U π k' E' m' c' a' w' → wpList P ops.toArray R (ops.drop n) a' w') (R := R) (by rw [List.toList_toArray]; exact hs _ fun _ _ _ x => x) hf hπ hU fun k' E' m' c' a' w' hk hat _ => hk c' a' w' hat
  rw [List.take_append_drop] at this
  exact this
theorem PostW0.ops (h : PostW0 N q c0 m0 w0 a0 q k E m c a w) {P : Program} {full : Array Oper} {pre : List Oper} {R : Exit → Act → World → Prop} (hf : fitsOps N pre = true)
    (hs : ∀ K : Nat → Env → M → Prop, (∀ k' E' m', (∀ c' a' w', PostW0 N q c0 m0 w0 a0 q k' E' m' c' a' w' → R .normal a' w') → K k' E' m') → POps P full.toList q K pre k E m) : wpList P full R pre a w := by
  refine POps_ok (N := N) (W := fun t => pre.any fun o => o.dst == some t) (E0 := E) (c0 := c) (m0 := m) (w0 := w) (a0 := a) (K := fun k' E' m' => ∀ c' a' w', PostW0 N q c0 m0 w0 a0 q k' E' m' c' a' w' → R .normal a' w') ?_ pre k E c m w a (hs _ fun _ _ _ x => x) hf h.rep h.env h.fr (.refl q c m w) rfl (fun _ _ => rfl) ?_
  · rintro a' w' ⟨c', k', E', m', h1, h2, h3, h4, h5, h6, h7⟩
    exact h1 _ _ _ ⟨h2, h4, h.ext.trans h3, h5, h6.trans h.df⟩
  · intro o ho d hd
    exact List.any_eq_true.2 ⟨o, ho, by simp [hd]⟩
theorem PostW0.reg (h : PostW0 N q c0 m0 w0 a0 q k E m c a w) {P : Program} {R : Exit → Act → World → Prop} {id : Nat} {ops : List Oper} (hf : fitsOps N ops = true)
    (hs : ∀ K : Nat → Env → M → Prop, (∀ k' E' m', (∀ c' a' w', PostW0 N q c0 m0 w0 a0 q k' E' m' c' a' w' → R .normal a' w') → K k' E' m') → POps P ops q K ops k E m) : (Code.region id ops.toArray false).wp P R a w := by
  refine wp_region_list ?_
  rw [List.toList_toArray]
  exact h.ops hf (by rw [List.toList_toArray]; exact hs)
theorem rounds_list {α : Type} {P : Program} {body : Code} {Q : Exit → Act → World → Prop} (J : List α → Act → World → Prop) (h : ∀ x rest a w, J (x :: rest) a w → body.wp P (Exit.then (J rest) Q) a w) (h0 : ∀ a w, J [] a w → body.wp P (Exit.then (fun _ _ => False) Q) a w) : ∀ rest a w, J rest a w → Code.rounds P body Q (rest.length + 1) a w := by
  intro rest
  induction rest with
  | nil =>
    intro a w hj
    rw [rounds_succ]
    refine wp_mono (h0 a w hj) fun e a' w' hp => ?_
    cases e with
    | normal => exact hp.elim
    | _ => exact hp
  | cons x rest ih =>
    intro a w hj
    rw [List.length_cons, rounds_succ]
    refine wp_mono (h x rest a w hj) fun e a' w' hp => ?_
    cases e with
    | normal => exact ih _ _ hp
    | _ => exact hp
/-- what stays fresh beside a round -/
def UL (K i : Nat) (q id : Pa) : Prop := (∃ j, i < j ∧ (j :: K :: q) <:+ id) ∨ ∃ j, K < j ∧ (j :: q) <:+ id
theorem UL.off {K i : Nat} {q id : Pa} (h : UL K i q id) : ¬ (i :: K :: q) <:+ id := by
  rcases h with ⟨j, hj, h⟩ | ⟨j, hj, h⟩
  · exact not_under h (by omega)
  · exact fun h2 => not_under h (by omega) (under_tail h2)
theorem At.enter (h : At N q c0 m0 w0 a0 b S (fun _ => False) q k E m c a w) : At N q c0 m0 w0 a0 b S (UL k 0 q) (0 :: k :: q) 0 E m c a w :=
  ⟨h.rep, h.env, h.ext, fun _ _ id hid => h.fr k (Nat.le_refl _) id (under_tail (under_tail hid)), fun id hid => by
    rcases hid with ⟨j, hj, hid⟩ | ⟨j, hj, hid⟩
    · exact h.fr k (Nat.le_refl _) id (under_tail hid)
    · exact h.fr j (by omega) id hid, h.jj, h.df⟩
theorem At.next {K i : Nat} (h : At N q c0 m0 w0 a0 b S (UL K i q) (i :: K :: q) k E m c a w) : At N q c0 m0 w0 a0 b S (UL K (i + 1) q) ((i + 1) :: K :: q) 0 E m c a w :=
  ⟨h.rep, h.env, h.ext, fun _ _ id hid => h.up id (.inl ⟨i + 1, by omega, under_tail hid⟩), fun id hid => h.up id (hid.imp (fun ⟨j, hj, x⟩ => ⟨j, by omega, x⟩) (fun x => x)), h.jj, h.df⟩
theorem At.leave {K i : Nat} (h : At N q c0 m0 w0 a0 b S (UL K i q) (i :: K :: q) k E m c a w) : At N q c0 m0 w0 a0 b S (fun _ => False) q (K + 1) E m c a w :=
  ⟨h.rep, h.env, h.ext, fun j hj id hid => h.up id (.inr ⟨j, by omega, hid⟩), fun _ h => h.elim, h.jj, h.df⟩
theorem At.ev (h : At N q c0 m0 w0 a0 b S U π k E m c a w) {t : Nat} {v : Value} (hb : E t = .lit v) : a.eval (.tmp t) = v := by
  have ht := h.env.ev h.rep (.tmp t)
  rw [show Abs.ev m E (.tmp t) = E t from rfl, hb] at ht
  exact ht.inv_lit
/-- what a call of one told slot must show -/
theorem SC_raw {P : Program} {f : FuncId} {fn : Func} {body : Code} {args : List V} {q : Pa} {m : M} {R : V → M → Prop} (hf : P.funcs[f]? = some fn) (hb : fn.body = some body) (hen : ∀ (xs : Array Value) (w : World), (callFunc f xs).run P w = .ok (.enter f xs) w) {N : Nat} (hN : fn.ntmps = N) {t : Nat} (hrs : fn.results.toList = [.tmp t])
    (h : ∀ (c : Conc) (a : Act) (w : World), PostW0 N q c m w a q 0 (ini args) m c a w → a.defers = [] → body.wp P (fun e a' w' => (e = .ret ∨ e = .normal) ∧ a'.defers = [] ∧ ∃ c' E' m' v, E' t = v ∧ R v (m.back q m') ∧ Rep c' m' w' ∧ Abs.Ext q c m w c' m' w' ∧ EnvOk c' E' a' N) a w) : SC P f args q m R := by
  intro c xs w h1 h2 h3
  refine .inl ⟨hen _ w, ?_⟩
  subst hN
  have hini := ini_ok h2 fn.ntmps
  refine calls_of_wp hf hb ?_
  rw [List.size_toArray]
  refine wp_mono (h c _ w ⟨h1, hini, .refl q c m w, h3.sub, rfl⟩ rfl) ?_
  rintro e a' w' ⟨he, hd, c', E', m', v, hv, hr, g2, g3, g4⟩
  obtain ⟨hback, hown⟩ := h1.back h3 g2
  have hX : Abs.Ext q c m w c' (m.back q m') w' := ⟨g3.le, g3.os, g3.tape, g3.output, g3.size, g3.heap, g3.book, fun b hb ho => g3.own b hb (hown b ho), g3.fresh, fun id hid hb => (g3.keep id hid hb).back hid, g3.lits⟩
  have hx := g4.at_ t
  rw [hv] at hx
  have hdone : a'.defers = [] ∧ ∃ v, (results fn a'.tmps).run P w' = .ok v w' ∧ ∃ x c' r m', Ending.returned v = .returned x ∧ R r m' ∧ Rep c' m' w' ∧ Abs.Ext q c m w c' m' w' ∧ CR c' [r] [x] :=
    ⟨hd, _, results_tmp hrs a'.tmps w', _, c', v, m.back q m', rfl, hr, hback, hX, hx⟩
  rcases he with rfl | rfl
  · exact hdone
  · exact hdone
end
end Go.Proofs.YtolhahlnccekcaaDoor.Abs
