/-
  Own helper theorems of no one function: rules for written walks (where ways meet, loops, drawn regions, calls), and the cells of plain data.
-/
import Derived.Test.YtolhahlnccekcaaDoorPwA21
import Derived.Lib.Bytealg
namespace Go.Proofs.YtolhahlnccekcaaDoor.Abs
open Go.RowKit

def weakE : List Nat → Env → Env
  | [], E => E
  | t :: ts, E => weakE ts (upd E t (E t).weak1)
@[go_sem] theorem weakE_nil {E : Env} : weakE [] E = E := _root_.id rfl
theorem weakE_at : ∀ {ts : List Nat} {E : Env} {t : Nat}, t ∉ ts → weakE ts E t = E t := by
  intro ts
  induction ts with
  | nil => intro E t _; rfl
  | cons s ts ih =>
    intro E t h
    rw [weakE, ih (fun hm => h (List.mem_cons_of_mem _ hm))]
    show (if t = s then _ else E t) = E t
    rw [if_neg (fun e => h (by rw [e]; exact List.mem_cons_self))]
theorem EnvOk.weakE {c : Conc} {a : Act} {N : Nat} : ∀ {ts : List Nat} {E : Env}, EnvOk c E a N → EnvOk c (weakE ts E) a N := by
  intro ts
  induction ts with
  | nil => intro E h; exact h
  | cons s ts ih =>
    intro E h
    refine ih ⟨h.size, fun t => ?_⟩
    show CR c [if t = s then (E s).weak1 else E t] _
    split
    · rename_i e; subst e; exact V.weak1_ok (h.at_ t)
    · exact h.at_ t
def unselfs : List (Pa × Nat) → M → M
  | [], m => m
  | x :: us, m => unselfs us (unselfB (m.blk x.1) m x.1 x.2)
@[go_sem] theorem unselfs_nil {m : M} : unselfs [] m = m := _root_.id rfl
@[go_sem] theorem unselfs_cons {id : Pa} {off : Nat} {us : List (Pa × Nat)} {m : M} : unselfs ((id, off) :: us) m = unselfs us (unselfB (m.blk id) m id off) := _root_.id rfl
theorem unself_eq {m : M} {id : Pa} {off : Nat} : unselfB (m.blk id) m id off = m.unself id off := (drop_cell (j := 0)).symm
theorem Rep.unselfs {c : Conc} {w : World} : ∀ {us : List (Pa × Nat)} {m : M}, Rep c m w → Rep c (unselfs us m) w ∧ ∀ q, Ext q c m w c (unselfs us m) w := by
  intro us
  induction us with
  | nil => intro m h; exact ⟨h, fun q => .refl q c m w⟩
  | cons x us ih =>
    intro m h
    obtain ⟨h1, h2, _⟩ := h.unself x.1 x.2
    have e : unselfB (m.blk x.1) m x.1 x.2 = m.unself x.1 x.2 := unself_eq
    show Rep c (Abs.unselfs us (unselfB (m.blk x.1) m x.1 x.2)) w ∧ _
    rw [e]
    obtain ⟨h3, h4⟩ := ih h1
    refine ⟨h3, fun q => ?_⟩
    show Ext q c m w c (Abs.unselfs us (unselfB (m.blk x.1) m x.1 x.2)) w
    rw [e]
    exact (h2 q).trans (h4 q)

section
variable {P : Program} {N : Nat} {π : Pa} {k : Nat} {E : Env} {m : M} {Q : Exit → Nat → Env → M → Prop} {f : FuncId} {args : List V} {q : Pa} {R : V → M → Prop}
theorem wr_all {x : Code} {ts : List Nat} (hts : ts.all (wr x) = true) {t : Nat} (ht : wr x t = false) : t ∉ ts := fun hm => by
  have := List.all_eq_true.1 hts t hm
  rw [ht] at this; cases this
/-- where ways meet: the counter goes on from K0, some slots and cells own nothing from here on -/
theorem SW_joinK {x : Code} (K0 : Nat) (ts : List Nat) (us : List (Pa × Nat)) (hts : ts.all (wr x) = true) (J : Env → M → Prop) (h : SW P N π x k E m (thenQ (fun k' E' m' => k' ≤ K0 ∧ J (weakE ts E') (unselfs us m')) Q))
    (h2 : ∀ E' m', J E' m' → (∀ t, wr x t = false → E' t = E t) → Q .normal K0 E' m') : SW P N π x k E m Q := by
  intro hf c a w g1 g2 g3
  refine wp_mono (h hf c a w g1 g2 g3) fun e a' w' hp => ?_
  obtain ⟨c', k', E', m', q1, q2, q3, q4, q5, q6, q7⟩ := hp
  cases e with
  | normal =>
    obtain ⟨hk, hJ⟩ := q1
    obtain ⟨r1, r2⟩ := q2.unselfs (us := us)
    have hfr : ∀ t, wr x t = false → weakE ts E' t = E t := fun t ht => (weakE_at (wr_all hts ht)).trans (q7 t ht)
    exact ⟨c', K0, weakE ts E', unselfs us m', h2 _ _ hJ hfr, r1, q3.trans (r2 π), q4.weakE, q5.le hk, q6, hfr⟩
  | _ => exact ⟨c', k', E', m', q1, q2, q3, q4, q5, q6, q7⟩
theorem SW_weakE {x : Code} {ts : List Nat} {us : List (Pa × Nat)} (hts : ts.all (wr x) = true) (h : SW P N π x k (weakE ts E) (unselfs us m) Q) : SW P N π x k E m Q := by
  intro hf c a w g1 g2 g3
  obtain ⟨r1, r2⟩ := g1.unselfs (us := us)
  refine wp_mono (h hf c a w r1 g2.weakE g3) fun e a' w' hp => ?_
  obtain ⟨c', k', E', m', q1, q2, q3, q4, q5, q6, q7⟩ := hp
  exact ⟨c', k', E', m', q1, q2, (r2 π).trans q3, q4, q5, q6, fun t ht => (q7 t ht).trans (weakE_at (wr_all hts ht))⟩
/-- a loop whose rounds are counted down; some slots and cells own nothing at its head -/
theorem SW_countW {body : Code} (ts : List Nat) (us : List (Pa × Nat)) (hts : ts.all (wr body) = true) (Inv : Nat → Env → M → Prop) (c0 : Nat) (h0 : Inv c0 (weakE ts E) (unselfs us m))
    (step : ∀ (i c : Nat) (E' : Env) (m' : M), Inv c E' m' → (∀ t, wr body t = false → E' t = E t) → SW P N (i :: k :: π) body 0 E' m' (thenQ (fun _ E2 m2 => ∃ c', c' < c ∧ Inv c' (weakE ts E2) (unselfs us m2)) fun e _ E2 m2 => Q e (k + 1) E2 m2)) :
    SW P N π (.loop body) k E m Q := by
  refine SW_count (fun c E m => Inv c (weakE ts E) (unselfs us m)) c0 h0 fun i c E' m' hI hf => ?_
  exact SW_weakE hts (step i c _ _ hI fun t ht => (weakE_at (wr_all hts ht)).trans (hf t ht))
theorem dop_mono {op : Op} {o : Oper} {fn : Nat} {hist : List M} {C C' : V → M → List M → Prop} (h : dop P op o fn q hist E m C) (hC : ∀ v m h, C v m h → C' v m h) : dop P op o fn q hist E m C' := by
  cases op with
  | load T x => obtain ⟨v, h1, h2, h3⟩ := h; exact ⟨v, h1, h2, hC _ _ _ h3⟩
  | alloc T => obtain ⟨v, h1, h2⟩ := h; exact ⟨v, h1, hC _ _ _ h2⟩
  | box T x => exact ⟨h.1, hC _ _ _ h.2⟩
  | _ =>
    simp only [dop] at h ⊢
    first
      | (obtain ⟨v, m', h1, h2, h3⟩ := h; exact ⟨v, m', h1, h2, hC _ _ _ h3⟩)
      | (split at h
         · rename_i he; rw [if_pos he]; obtain ⟨v, m', h1, h2, h3⟩ := h; exact ⟨v, m', h1, h2, hC _ _ _ h3⟩
         · rename_i he; rw [if_neg he]; obtain ⟨v, h1, h2⟩ := h; exact ⟨v, h1, hC _ _ _ h2⟩)
theorem PD_K {full : List Oper} {K K' : Nat → Env → M → Prop} (hK : ∀ E m, K (k + full.length) E m → K' (k + full.length) E m) : ∀ {ord : List (Nat × Nat)} {hist : List M} {E : Env} {m : M}, PD P full π k K ord hist E m → PD P full π k K' ord hist E m := by
  intro ord
  induction ord with
  | nil => intro hist E m h; exact hK E m h
  | cons x rest ih =>
    obtain ⟨i, fn⟩ := x
    intro hist E m h
    unfold PD at h ⊢
    split
    · rename_i ho; rw [ho] at h; exact h
    · rename_i o ho
      rw [ho] at h
      simp only at h ⊢
      split
      · rename_i hg
        rw [hg] at h
        exact dop_mono h fun v m' hist' => ih
      · rename_i j b hg
        rw [hg] at h
        simp only at h ⊢
        split
        · rename_i hd; rw [hd] at h; exact h
        · rename_i d hd
          rw [hd] at h
          simp only at h ⊢
          split
          · rename_i t ht
            rw [ht] at h
            simp only at h
            split
            · rename_i hb; rw [if_pos hb] at h; exact dop_mono h fun v m' hist' => ih
            · rename_i hb; rw [if_neg hb] at h; exact ih h
          · rename_i ht; rw [ht] at h; exact ih h
          · rename_i h1 h2
            revert h
            split
            · rename_i t ht; exact absurd ht (h1 t)
            · rename_i t ht; exact absurd ht (h2 t)
            · exact _root_.id
theorem SW_drawK {id : Nat} {ops : List Oper} {tbl : List Nat} {ord : List (Nat × Nat)} (k2 : Nat) (hk : k + ops.length = k2) (hm : P.follows .mixedOrders = true) (hc : dOk ops tbl ord = true)
    (h : ∀ K : Env → M → Prop, (∀ E m, Q .normal k2 E m → K E m) → PD P ops π k (fun _ E m => K E m) ord [] E m) : SW P N π (.region id ops.toArray true) k E m Q := by
  subst hk
  refine SW_draw (tbl := tbl) (ord := ord) hm (by rw [List.toList_toArray]; exact hc) ?_
  rw [List.toList_toArray]
  exact PD_K (K := fun _ E m => Q .normal (k + ops.length) E m) (fun _ _ x => x) (h (fun E m => Q .normal (k + ops.length) E m) fun _ _ x => x)
theorem SC.weak (h : SC P f (args.map V.weak1) q m R) : SC P f args q m R := fun c xs w h1 h2 h3 => h c xs w h1 (weaks_ok h2) h3
end

/-! the cells of plain data -/
def cI (k : IntKind) (x : Int) : List V := [.lit (.int k x)]
def cS (s : Str) : List V := [.lit (.string (bs s))]
def cA {α : Type} (f : α → List V) (l : List α) : List V := l.flatMap f
@[go_sem] theorem cS_eq {s : Str} : cS s = [.lit (.string (bs s))] := _root_.id rfl
/-! operators under short names -/
def andK (k : IntKind) (a b : Int) : Int := k.wrap (BitVec.ofInt k.bits a &&& BitVec.ofInt k.bits b).toNat
def orK (k : IntKind) (a b : Int) : Int := k.wrap (BitVec.ofInt k.bits a ||| BitVec.ofInt k.bits b).toNat
section
variable {P : Program} {T : TypeId} {x y : Operand} {C : V → Prop} {kk k2 : IntKind} {a b : Int} {c : Bool}
@[go_sem high] theorem sbin_andK : sbin P .and T x y (.lit (.int kk a)) (.lit (.int kk b)) C = C (.lit (.int kk (andK kk a b))) := by simp [sbin, andK]
@[go_sem high] theorem sbin_orK : sbin P .or T x y (.lit (.int kk a)) (.lit (.int kk b)) C = C (.lit (.int kk (orK kk a b))) := by simp [sbin, orK]
@[go_sem high] theorem sun_not : sun .not (.lit (.bool c)) C = C (.lit (.bool (!c))) := _root_.id rfl
end
end Go.Proofs.YtolhahlnccekcaaDoor.Abs
namespace Go.Proofs.YtolhahlnccekcaaDoor.Abs
open Go.RowKit

theorem cA_drop {α : Type} {f : α → List V} {s : Nat} : ∀ {l : List α} {i : Nat} {x : α}, (∀ x ∈ l, (f x).length = s) → l[i]? = some x → ∃ rest, (cA f l).drop (i * s) = f x ++ rest := by
  intro l
  induction l with
  | nil => intro i x _ h; cases h
  | cons y l ih =>
    intro i x hf h
    have hy := hf y (by simp)
    cases i with
    | zero =>
      obtain rfl : y = x := by simpa using h
      exact ⟨cA f l, by simp [cA]⟩
    | succ i =>
      obtain ⟨rest, hr⟩ := ih (fun z hz => hf z (by simp [hz])) (by simpa using h)
      refine ⟨rest, ?_⟩
      rw [← hr]
      show List.drop ((i + 1) * s) (f y ++ cA f l) = _
      rw [List.drop_append, List.drop_of_length_le (by rw [hy, Nat.succ_mul]; omega), hy, Nat.succ_mul, show i * s + s - s = i * s by omega, List.nil_append]
theorem pz1 {q p : Pa} (hp : ¬ q <:+ p) : (∀ a, (a :: q = p) = False) ∧ ∀ a, (p = a :: q) = False := ⟨fun _ => pa1 hp, fun _ => pb1 hp⟩
theorem pz2 {q p : Pa} (hp : ¬ q <:+ p) : (∀ a, (a :: q = p) = False) ∧ (∀ a, (p = a :: q) = False) ∧ (∀ a b c, (a :: b :: c :: q = p) = False) ∧ ∀ a b c, (p = a :: b :: c :: q) = False := ⟨fun _ => pa1 hp, fun _ => pb1 hp, fun _ _ _ => pa3 hp, fun _ _ _ => pb3 hp⟩
theorem cA_all {α : Type} {f : α → List V} {s : Nat} (l : List α) (h : l.all (fun x => (f x).length == s) = true) : ∀ x ∈ l, (f x).length = s := fun x hx => by simpa using List.all_eq_true.1 h x hx
theorem cA_one {l : List Str} {n : Nat} (h : (cA cS l).length = n) : l.length = n := by
  rw [← h]
  clear h
  induction l with
  | nil => rfl
  | cons x l ih => show l.length + 1 = (cS x ++ cA cS l).length; rw [List.length_append, ← ih]; simp [cS]; omega
theorem none_some_ {α : Type} {x : Option α} {r : α} {p : Prop} (h : x = some r) (hx : x = none := by rfl) : p := by rw [hx] at h; cases h
@[go_sem] theorem bs_empty : ByteArray.empty = bs [] := by rfl
@[go_sem] theorem cA_sh_S {l : List Str} : (cA cS l).map V.shared = cA cS l := by
  induction l with
  | nil => rfl
  | cons x l ih => show List.map V.shared (cS x ++ cA cS l) = cS x ++ cA cS l; rw [List.map_append, ih]; rfl
theorem no_self {a b : Nat} {q : Pa} (h : a :: b :: q = q) : False := by have := congrArg List.length h; simp at this; omega
@[go_sem] theorem p02 {a b : Nat} {q : Pa} : (q = a :: b :: q) = False := eq_false fun h => no_self h.symm
attribute [go_sem] ne_eq not_false_eq_true drop_anon List.length_append List.map_append List.cons.injEq and_false false_and Int.cast_ofNat_Int Nat.sub_zero Nat.one_mul Bool.false_eq_true Nat.mul_one Nat.zero_add Nat.add_zero
@[go_sem] theorem weak1_fn {f : Fn} {xs ys : List V} : V.weak1 (.fn f xs ys) = .fn f xs ys := _root_.id rfl
section
variable {P : Program} {C : V → Prop} {rows : List (List V)} {i off n : Nat} {e : TypeId} {lo hi : Option V}
def slC : Option Int → Option Int → Option Nat → Option (List V) → Nat → Nat → (V → Prop) → Prop
  | some l, some h, some s, some r, n, off, C => 0 < s ∧ 0 ≤ l ∧ l ≤ h ∧ h ≤ n ∧ n ≤ 1073741824 ∧ off + n * s ≤ r.length ∧ C (.list .none (chunk s (h.toNat - l.toNat) (r.drop (off + l.toNat * s))))
  | _, _, _, _, _, _, _ => False
@[go_sem] theorem slU_e : slU P (.ar n e) (.eptr rows i off) lo hi C = slC (bndV lo 0) (bndV hi n) (sizeT P e) rows[i]? n off C := by
  unfold slU slC
  simp only
  cases bndV lo 0 <;> cases bndV hi n <;> cases sizeT P e <;> cases rows[i]? <;> rfl
@[go_sem] theorem slC_some {l h : Int} {s : Nat} {r : List V} : slC (some l) (some h) (some s) (some r) n off C = (0 < s ∧ 0 ≤ l ∧ l ≤ h ∧ h ≤ n ∧ n ≤ 1073741824 ∧ off + n * s ≤ r.length ∧ C (.list .none (chunk s (h.toNat - l.toNat) (r.drop (off + l.toNat * s))))) := _root_.id rfl
end
theorem ud_sl {P : Program} {T e : TypeId} (h : ud P T = .sl e) : P.underlying T = some (.slice e) := by
  unfold ud at h
  cases hu : P.underlying T with
  | none => rw [hu] at h; cases h
  | some d => rw [hu] at h; cases d <;> first | (cases h; done) | (injection h with h; rw [h])
@[go_sem] theorem cvU_ll {P : Program} {T e : TypeId} {rows : List (List V)} {C : V → Prop} (h1 : ud P T = .sl e) (h2 : ud P e = .int .u8) : cvU P T T (.sl e) (.sl e) (.list .exact rows) C = (rows ≠ [] ∧ C (.list .exact rows)) := by
  show sconv P T T (.list .exact rows) C = _
  have hu := ud_sl h1
  have h3 : P.underlying e = some (.int .u8) := by rw [ud_u8]; exact h2
  unfold sconv
  rw [hu]
  simp only [h3, true_and]
@[go_sem] theorem byteRows_nil : byteRows [] = [] := _root_.id rfl
@[go_sem] theorem byteRows_cons {x : UInt8} {l : Str} : byteRows (x :: l) = [.lit (.int .u8 (x.toNat : Int))] :: byteRows l := _root_.id rfl
section
variable {P : Program} {T : TypeId} {x y : Operand} {C : V → Prop} {a b : Bool} {k : IntKind} {i j : Int}
@[go_sem] theorem sminmax_max : sminmax true (.lit (.int k i)) (.lit (.int k j)) C = C (.lit (.int k (max i j))) := by simp [sminmax]
end
/-- an own list gets a stamp -/
theorem SW_stamp {P : Program} {N : Nat} {π : Pa} {k : Nat} {E : Env} {m : M} {Q : Exit → Nat → Env → M → Prop} {x : Code} (t : Nat) (rows : List (List V)) (ht : wr x t = true) (he : E t = .list .exact rows)
    (h : SW P N π x (k + 1) (upd E t (.list (.st (.anon (k :: π) 0)) rows)) (m.tokset (k :: π) 0 true) Q) : SW P N π x k E m Q := by
  intro hf c a w g1 g2 g3
  have hq : FreshAt c (k :: π) := g3.at_.at_
  obtain ⟨c', hc'⟩ : ∃ c' : Conc, c' = { c with κ := fun s => if s = .anon (k :: π) 0 then some .full else c.κ s } := ⟨_, rfl⟩
  have hκ : ∀ s, c'.κ s = if s = .anon (k :: π) 0 then some .full else c.κ s := by intro s; rw [hc']
  have hρ : c'.ρ = c.ρ := by rw [hc']
  have hG : c'.G = c.G := by rw [hc']
  have hlit : c'.lit = c.lit := by rw [hc']
  have hbase : c'.base = c.base := by rw [hc']
  have hle : Le c c' := ⟨hbase, fun b h => by rw [hlit]; exact h, fun i b h => by rw [hρ]; exact h, fun s i hk => by
    rw [hκ]; split
    · rename_i e; rw [e, hq.2.1 0] at hk; cases hk
    · exact hk, fun b o v h => by rw [hG]; exact h⟩
  clear hc'
  have hblk : ∀ i, (m.tokset (k :: π) 0 true).blk i = m.blk i := fun _ => rfl
  have htok : ∀ i j, (m.tokset (k :: π) 0 true).tok i j = if i = (k :: π) ∧ j = 0 then true else m.tok i j := fun _ _ => rfl
  have harr : ∀ s b cap sz len, c'.κ s = some (.arr b cap sz len) → s ≠ .anon (k :: π) 0 ∧ c.κ s = some (.arr b cap sz len) := by
    intro s b cap sz len hk
    rw [hκ] at hk
    split at hk
    · cases hk
    · rename_i hne; exact ⟨hne, hk⟩
  have hlive : ∀ s, s ≠ .anon (k :: π) 0 → liveB (m.tokset (k :: π) 0 true) s = true → liveB m s = true := by
    intro s hne hl
    cases s with
    | anon i j =>
      have hl' : (m.tokset (k :: π) 0 true).tok i j = true := hl
      rw [htok, if_neg (by rintro ⟨rfl, rfl⟩; exact hne rfl)] at hl'
      exact hl'
    | cell i o v => exact hl
  have hown : ∀ b, Owned c' (m.tokset (k :: π) 0 true) b → Owned c m b := by
    rintro b (⟨id, hid, hr⟩ | ⟨s, cap, sz, len, hl, hk⟩)
    · exact .inl ⟨id, hid, by rw [← hρ]; exact hr⟩
    · obtain ⟨h1, h2⟩ := harr _ _ _ _ _ hk
      exact .inr ⟨s, cap, sz, len, hlive s h1 hl, h2⟩
  have hR : Rep c' (m.tokset (k :: π) 0 true) w := by
    refine ⟨by rw [hG]; exact g1.com, fun id vs hv => ?_, fun id id' b hi hi' hr hr' => g1.inj id id' b hi hi' (by rw [← hρ]; exact hr) (by rw [← hρ]; exact hr'), fun s b cap sz len hl hk => ?_, fun s s' b cap sz len cap' sz' len' hl hl' hk hk' => ?_, fun id off v hb hv => ?_, fun g => (g1.gl g).mono hle, fun id hid => ?_, by rw [hbase]; exact g1.base, fun b hb => ?_⟩
    · obtain ⟨b, cs, t', k1, k2, k3, k4, k5⟩ := g1.blk id vs hv
      exact ⟨b, cs, t', by rw [hρ]; exact k1, k2, k3.mono hle, by rw [hG]; exact k4, k5⟩
    · obtain ⟨h1, h2⟩ := harr _ _ _ _ _ hk
      obtain ⟨k1, k2, k3, k4⟩ := g1.own s b cap sz len (hlive s h1 hl) h2
      exact ⟨k1, fun o ho => by rw [hG]; exact k2 o ho, fun id hid => by rw [hρ]; exact k3 id hid, k4⟩
    · obtain ⟨h1, h2⟩ := harr _ _ _ _ _ hk
      obtain ⟨h3, h4⟩ := harr _ _ _ _ _ hk'
      exact g1.ownInj s s' b cap sz len cap' sz' len' (hlive s h1 hl) (hlive s' h3 hl') h2 h4
    · rw [hκ, if_neg (by rintro ⟨⟩)]
      exact g1.ver id off v hb hv
    · have hf' := hid.anti hle
      refine ⟨(g1.ver0 id hf').1, fun j => ?_⟩
      rw [htok, if_neg]
      · exact (g1.ver0 id hf').2 j
      · rintro ⟨rfl, rfl⟩
        have := hid.2.1 0
        rw [hκ, if_pos rfl] at this; cases this
    · rw [hlit] at hb
      refine ⟨by rw [hbase]; exact (g1.lit b hb).1, (g1.lit b hb).2.1, fun ho => (g1.lit b hb).2.2 (hown b ho)⟩
  have hfr1 : ∀ id, ¬ (k :: π) <:+ id → FreshAt c id → FreshAt c' id := by
    intro id hid hf'
    refine ⟨by rw [hρ]; exact hf'.1, fun i => ?_, fun off v => ?_⟩
    · rw [hκ, if_neg]
      · exact hf'.2.1 i
      · intro e; injection e with e1 e2; exact hid (e1 ▸ List.suffix_refl _)
    · rw [hκ, if_neg (by rintro ⟨⟩)]; exact hf'.2.2 off v
  have hX : Ext (k :: π) c m w c' (m.tokset (k :: π) 0 true) w := by
    refine ⟨hle, rfl, rfl, rfl, Nat.le_refl _, fun _ _ _ _ => rfl, fun b _ _ o => by rw [hG], fun b _ ho => hown b ho, hfr1, fun id hid hb => ?_, fun b _ hb => by rw [hlit] at hb; exact hb⟩
    refine ⟨hb.blk, fun i => ?_, fun off v => ?_, hb.ver, fun j => ?_⟩
    · rw [hκ, if_neg]
      · exact hb.anon i
      · intro e; injection e with e1 e2; exact hid (e1 ▸ List.suffix_refl _)
    · rw [hκ, if_neg (by rintro ⟨⟩)]; exact hb.cell off v
    · rw [htok, if_neg]
      · exact hb.tok j
      · rintro ⟨rfl, _⟩; exact hid (List.suffix_refl _)
  have hE : EnvOk c' (upd E t (.list (.st (.anon (k :: π) 0)) rows)) a N := by
    refine ⟨g2.size, fun t' => ?_⟩
    show CR c' [if t' = t then _ else E t'] _
    split
    · rename_i e
      subst e
      have h0 := (g2.at_ t').mono hle
      rw [he] at h0
      obtain ⟨x', cap, es, sz, e1, k1, k2, kz, k3, k4, k5, k6, kc, k7⟩ := h0.inv_list
      rw [e1]
      exact .list k1 k2 kz k3 k4 k5 k6 kc (.inl ⟨by rw [hκ, if_pos rfl], k7.1⟩) .nil
    · exact (g2.at_ t').mono hle
  refine wp_mono (h hf c' a w hR hE (hX.freshK g3)) fun e a' w' hp => ?_
  obtain ⟨c2, k', E', m', q1, q2, q3, q4, q5, q6, q7⟩ := hp
  refine ⟨c2, k', E', m', q1, q2, hX.up.trans q3, q4, q5, q6, fun t' ht' => ?_⟩
  rw [q7 t' ht']
  show (if t' = t then _ else E t') = E t'
  rw [if_neg]
  rintro rfl
  rw [ht] at ht'; cases ht'
end Go.Proofs.YtolhahlnccekcaaDoor.Abs
