/-
  Own helper theorems of no one function: rules for written walks (where ways meet, loops, drawn regions, calls), and the cells of plain data.
-/
import Derived.Test.YtolhahlnccekcaaDoorPjA21
namespace Go.Proofs.YtolhahlnccekcaaDoor.Abs
open Go.RowKit

def weakE : List Nat → Env → Env
  | [], E => E
  | t :: ts, E => weakE ts (upd E t (E t).weak1)
@[go_sem] theorem weakE_nil {E : Env} : weakE [] E = E := _root_.id rfl
theorem weakE_at : ∀ {ts : List Nat} {E : Env} {t : Nat}, t ∉ ts → weakE ts E t = E t := by
  intro ts
  induction ts with
  | nil => intro E t _; rfl
  | cons s ts ih =>
    intro E t h
    rw [weakE, ih (fun hm => h (List.mem_cons_of_mem _ hm))]
    show (if t = s then _ else E t) = E t
    rw [if_neg (fun e => h (by rw [e]; exact List.mem_cons_self))]
theorem EnvOk.weakE {c : Conc} {a : Act} {N : Nat} : ∀ {ts : List Nat} {E : Env}, EnvOk c E a N → EnvOk c (weakE ts E) a N := by
  intro ts
  induction ts with
  | nil => intro E h; exact h
  | cons s ts ih =>
    intro E h
    refine ih ⟨h.size, fun t => ?_⟩
    show CR c [if t = s then (E s).weak1 else E t] _
    split
    · rename_i e; subst e; exact V.weak1_ok (h.at_ t)
    · exact h.at_ t
def unselfs : List (Pa × Nat) → M → M
  | [], m => m
  | x :: us, m => unselfs us (unselfB (m.blk x.1) m x.1 x.2)
@[go_sem] theorem unselfs_nil {m : M} : unselfs [] m = m := _root_.id rfl
@[go_sem] theorem unselfs_cons {id : Pa} {off : Nat} {us : List (Pa × Nat)} {m : M} : unselfs ((id, off) :: us) m = unselfs us (unselfB (m.blk id) m id off) := _root_.id rfl
theorem unself_eq {m : M} {id : Pa} {off : Nat} : unselfB (m.blk id) m id off = m.unself id off := (drop_cell (j := 0)).symm
theorem Rep.unselfs {c : Conc} {w : World} : ∀ {us : List (Pa × Nat)} {m : M}, Rep c m w → Rep c (unselfs us m) w ∧ ∀ q, Ext q c m w c (unselfs us m) w := by
  intro us
  induction us with
  | nil => intro m h; exact ⟨h, fun q => .refl q c m w⟩
  | cons x us ih =>
    intro m h
    obtain ⟨h1, h2, _⟩ := h.unself x.1 x.2
    have e : unselfB (m.blk x.1) m x.1 x.2 = m.unself x.1 x.2 := unself_eq
    show Rep c (Abs.unselfs us (unselfB (m.blk x.1) m x.1 x.2)) w ∧ _
    rw [e]
    obtain ⟨h3, h4⟩ := ih h1
    refine ⟨h3, fun q => ?_⟩
    show Ext q c m w c (Abs.unselfs us (unselfB (m.blk x.1) m x.1 x.2)) w
    rw [e]
    exact (h2 q).trans (h4 q)

section
variable {P : Program} {N : Nat} {π : Pa} {k : Nat} {E : Env} {m : M} {Q : Exit → Nat → Env → M → Prop} {f : FuncId} {args : List V} {q : Pa} {R : V → M → Prop}
theorem wr_all {x : Code} {ts : List Nat} (hts : ts.all (wr x) = true) {t : Nat} (ht : wr x t = false) : t ∉ ts := fun hm => by
  have := List.all_eq_true.1 hts t hm
  rw [ht] at this; cases this
/-- where ways meet: the counter goes on from K0, some slots and cells own nothing from here on -/
theorem SW_joinK {x : Code} (K0 : Nat) (ts : List Nat) (us : List (Pa × Nat)) (hts : ts.all (wr x) = true) (J : Env → M → Prop) (h : SW P N π x k E m (thenQ (fun k' E' m' => k' ≤ K0 ∧ J (weakE ts E') (unselfs us m')) Q))
    (h2 : ∀ E' m', J E' m' → (∀ t, wr x t = false → E' t = E t) → Q .normal K0 E' m') : SW P N π x k E m Q := by
  intro hf c a w g1 g2 g3
  refine wp_mono (h hf c a w g1 g2 g3) fun e a' w' hp => ?_
  obtain ⟨c', k', E', m', q1, q2, q3, q4, q5, q6, q7⟩ := hp
  cases e with
  | normal =>
    obtain ⟨hk, hJ⟩ := q1
    obtain ⟨r1, r2⟩ := q2.unselfs (us := us)
    have hfr : ∀ t, wr x t = false → weakE ts E' t = E t := fun t ht => (weakE_at (wr_all hts ht)).trans (q7 t ht)
    exact ⟨c', K0, weakE ts E', unselfs us m', h2 _ _ hJ hfr, r1, q3.trans (r2 π), q4.weakE, q5.le hk, q6, hfr⟩
  | _ => exact ⟨c', k', E', m', q1, q2, q3, q4, q5, q6, q7⟩
theorem SW_weakE {x : Code} {ts : List Nat} {us : List (Pa × Nat)} (hts : ts.all (wr x) = true) (h : SW P N π x k (weakE ts E) (unselfs us m) Q) : SW P N π x k E m Q := by
  intro hf c a w g1 g2 g3
  obtain ⟨r1, r2⟩ := g1.unselfs (us := us)
  refine wp_mono (h hf c a w r1 g2.weakE g3) fun e a' w' hp => ?_
  obtain ⟨c', k', E', m', q1, q2, q3, q4, q5, q6, q7⟩ := hp
  exact ⟨c', k', E', m', q1, q2, (r2 π).trans q3, q4, q5, q6, fun t ht => (q7 t ht).trans (weakE_at (wr_all hts ht))⟩
/-- a loop whose rounds are counted down; some slots and cells own nothing at its head -/
theorem SW_countW {body : Code} (ts : List Nat) (us : List (Pa × Nat)) (hts : ts.all (wr body) = true) (Inv : Nat → Env → M → Prop) (c0 : Nat) (h0 : Inv c0 (weakE ts E) (unselfs us m))
    (step : ∀ (i c : Nat) (E' : Env) (m' : M), Inv c E' m' → (∀ t, wr body t = false → E' t = E t) → SW P N (i :: k :: π) body 0 E' m' (thenQ (fun _ E2 m2 => ∃ c', c' < c ∧ Inv c' (weakE ts E2) (unselfs us m2)) fun e _ E2 m2 => Q e (k + 1) E2 m2)) :
    SW P N π (.loop body) k E m Q := by
  refine SW_count (fun c E m => Inv c (weakE ts E) (unselfs us m)) c0 h0 fun i c E' m' hI hf => ?_
  exact SW_weakE hts (step i c _ _ hI fun t ht => (weakE_at (wr_all hts ht)).trans (hf t ht))
theorem dop_mono {op : Op} {o : Oper} {fn : Nat} {hist : List M} {C C' : V → M → List M → Prop} (h : dop P op o fn q hist E m C) (hC : ∀ v m h, C v m h → C' v m h) : dop P op o fn q hist E m C' := by
  cases op with
  | load T x => obtain ⟨v, h1, h2, h3⟩ := h; exact ⟨v, h1, h2, hC _ _ _ h3⟩
  | alloc T => obtain ⟨v, h1, h2⟩ := h; exact ⟨v, h1, hC _ _ _ h2⟩
  | box T x => exact ⟨h.1, hC _ _ _ h.2⟩
  | _ =>
    simp only [dop] at h ⊢
    first
      | (obtain ⟨v, m', h1, h2, h3⟩ := h; exact ⟨v, m', h1, h2, hC _ _ _ h3⟩)
      | (split at h
         · rename_i he; rw [if_pos he]; obtain ⟨v, m', h1, h2, h3⟩ := h; exact ⟨v, m', h1, h2, hC _ _ _ h3⟩
         · rename_i he; rw [if_neg he]; obtain ⟨v, h1, h2⟩ := h; exact ⟨v, h1, hC _ _ _ h2⟩)
theorem PD_K {full : List Oper} {K K' : Nat → Env → M → Prop} (hK : ∀ E m, K (k + full.length) E m → K' (k + full.length) E m) : ∀ {ord : List (Nat × Nat)} {hist : List M} {E : Env} {m : M}, PD P full π k K ord hist E m → PD P full π k K' ord hist E m := by
  intro ord
  induction ord with
  | nil => intro hist E m h; exact hK E m h
  | cons x rest ih =>
    obtain ⟨i, fn⟩ := x
    intro hist E m h
    unfold PD at h ⊢
    split
    · rename_i ho; rw [ho] at h; exact h
    · rename_i o ho
      rw [ho] at h
      simp only at h ⊢
      split
      · rename_i hg
        rw [hg] at h
        exact dop_mono h fun v m' hist' => ih
      · rename_i j b hg
        rw [hg] at h
        simp only at h ⊢
        split
        · rename_i hd; rw [hd] at h; exact h
        · rename_i d hd
          rw [hd] at h
          simp only at h ⊢
          split
          · rename_i t ht
            rw [ht] at h
            simp only at h
            split
            · rename_i hb; rw [if_pos hb] at h; exact dop_mono h fun v m' hist' => ih
            · rename_i hb; rw [if_neg hb] at h; exact ih h
          · rename_i ht; rw [ht] at h; exact ih h
          · rename_i h1 h2
            revert h
            split
            · rename_i t ht; exact absurd ht (h1 t)
            · rename_i t ht; exact absurd ht (h2 t)
            · exact _root_.id
theorem SW_drawK {id : Nat} {ops : List Oper} {tbl : List Nat} {ord : List (Nat × Nat)} (k2 : Nat) (hk : k + ops.length = k2) (hm : P.follows .mixedOrders = true) (hc : dOk ops tbl ord = true)
    (h : ∀ K : Env → M → Prop, (∀ E m, Q .normal k2 E m → K E m) → PD P ops π k (fun _ E m => K E m) ord [] E m) : SW P N π (.region id ops.toArray true) k E m Q := by
  subst hk
  refine SW_draw (tbl := tbl) (ord := ord) hm (by rw [List.toList_toArray]; exact hc) ?_
  rw [List.toList_toArray]
  exact PD_K (K := fun _ E m => Q .normal (k + ops.length) E m) (fun _ _ x => x) (h (fun E m => Q .normal (k + ops.length) E m) fun _ _ x => x)
theorem SC.weak (h : SC P f (args.map V.weak1) q m R) : SC P f args q m R := fun c xs w h1 h2 h3 => h c xs w h1 (weaks_ok h2) h3
end

/-! the cells of plain data -/
def cS (s : Str) : List V := [.lit (.string (bs s))]
def cA {α : Type} (f : α → List V) (l : List α) : List V := l.flatMap f
@[go_sem] theorem cS_eq {s : Str} : cS s = [.lit (.string (bs s))] := _root_.id rfl
/-! operators under short names -/
def orK (k : IntKind) (a b : Int) : Int := k.wrap (BitVec.ofInt k.bits a ||| BitVec.ofInt k.bits b).toNat
section
variable {P : Program} {T : TypeId} {x y : Operand} {C : V → Prop} {kk k2 : IntKind} {a b : Int} {c : Bool}
@[go_sem high] theorem sbin_orK : sbin P .or T x y (.lit (.int kk a)) (.lit (.int kk b)) C = C (.lit (.int kk (orK kk a b))) := by simp [sbin, orK]
@[go_sem high] theorem sun_not : sun .not (.lit (.bool c)) C = C (.lit (.bool (!c))) := _root_.id rfl
end
end Go.Proofs.YtolhahlnccekcaaDoor.Abs
