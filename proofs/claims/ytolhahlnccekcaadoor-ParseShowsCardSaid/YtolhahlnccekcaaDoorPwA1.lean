/-
  Own helper theorems of no one function: values seen from above (V), a memory seen from above (M), and what a world must be for them (Rep).
-/
import Derived.Test.YtolhahlnccekcaaDoorPwBase
namespace Go.Proofs.YtolhahlnccekcaaDoor.Abs
open Go.RowKit

abbrev Pa := List Nat

inductive Stamp where
  | anon (id : Pa) (j : Nat)
  | cell (id : Pa) (off ver : Nat)
  deriving DecidableEq

/-- who may append to a slice: nobody; anybody (its capacity is its length); the cell that holds it; who holds the stamp -/
inductive Own where
  | none
  | exact
  | self
  | st (s : Stamp)
  deriving DecidableEq

inductive V where
  | lit (v : Value)
  | top
  | ptr (id : Pa) (off : Nat)
  | list (o : Own) (rows : List (List V))
  | eptr (rows : List (List V)) (i off : Nat)
  | arr (id : Pa) (off len cap : Nat)
  | fn (f : Fn) (first captured : List V)
  | agg (cells : List V)
  | tup (vs : List V)
  deriving Inhabited

structure M where
  blk : Pa → Option (List V)
  ver : Pa → Nat → Nat
  tok : Pa → Nat → Bool
  gl : Nat → V

inductive Info where
  | full
  | arr (b cap sz len : Nat)

structure Conc where
  base : Nat
  lit : Nat → Prop
  ρ : Pa → Option Nat
  κ : Stamp → Option Info
  G : GG

def OwnOk (c : Conc) (o : Own) (len sz : Nat) (a : Option Addr) (cap : Nat) : Prop :=
  match o with
  | .none => True
  | .exact => cap = len ∧ ∀ x, a = some x → c.lit x.block
  | .self => False
  | .st s => (c.κ s = some .full ∧ cap = len) ∨ ∃ b, c.κ s = some (.arr b cap sz len) ∧ a = some ⟨b, 0, none⟩ ∧ 0 < len

/-- where the cells of a list lie -/
def Lies (G : GG) (a : Option Addr) (es : List Value) : Prop := 0 < es.length → ∃ b off, a = some ⟨b, off, none⟩ ∧ ∀ i u, es[i]? = some u → G b (off + i) = some u

inductive CR (c : Conc) : List V → List Value → Prop where
  | nil : CR c [] []
  | lit {v vs cs} : CR c vs cs → CR c (.lit v :: vs) (v :: cs)
  | top {v vs cs} : CR c vs cs → CR c (.top :: vs) (v :: cs)
  | ptr {id off b vs cs} : c.ρ id = some b → CR c vs cs → CR c (.ptr id off :: vs) (.pointer (some ⟨b, off, none⟩) :: cs)
  | list {o rows es sz a cap vs cs} : CR c rows.flatten es → (∀ r ∈ rows, r.length = sz) → 0 < sz → rows.length ≤ cap → cap ≤ maxLen → (0 < rows.length → ∃ b off, a = some ⟨b, off, none⟩) → Lies c.G a es → (∀ u ∈ es, u.oneCell' = true) → OwnOk c o rows.length sz a cap → CR c vs cs →
      CR c (.list o rows :: vs) (.slice a rows.length cap :: cs)
  | eptr {rows es sz i off b o vs cs} : CR c rows.flatten es → (∀ r ∈ rows, r.length = sz) → (∀ j u, es[j]? = some u → c.G b (o + j) = some u) → (∀ u ∈ es, u.oneCell' = true) → CR c vs cs →
      CR c (.eptr rows i off :: vs) (.pointer (some ⟨b, o + i * sz + off, none⟩) :: cs)
  | arr {id off len cap b vs cs} : c.ρ id = some b → len ≤ cap → cap ≤ maxLen → CR c vs cs → CR c (.arr id off len cap :: vs) (.slice (some ⟨b, off, none⟩) len cap :: cs)
  | fn {f first captured xs ys vs cs} : CR c first xs → CR c captured ys → CR c vs cs → CR c (.fn f first captured :: vs) (.func f xs.toArray ys.toArray :: cs)
  | agg {us xs vs cs} : CR c us xs → (∀ u ∈ xs, u.oneCell' = true) → CR c vs cs → CR c (.agg us :: vs) (.agg xs.toArray :: cs)
  | tup {us xs vs cs} : CR c us xs → CR c vs cs → CR c (.tup us :: vs) (.tuple xs.toArray :: cs)

/-- c' knows more than c -/
structure Le (c c' : Conc) : Prop where
  base : c'.base = c.base
  lit : ∀ b, c.lit b → c'.lit b
  ρ : ∀ id b, c.ρ id = some b → c'.ρ id = some b
  κ : ∀ s i, c.κ s = some i → c'.κ s = some i
  G : ∀ b o v, c.G b o = some v → c'.G b o = some v

theorem Le.refl (c : Conc) : Le c c := ⟨rfl, fun _ h => h, fun _ _ h => h, fun _ _ h => h, fun _ _ _ h => h⟩
theorem Le.trans {a b c : Conc} (h : Le a b) (k : Le b c) : Le a c := ⟨k.base.trans h.base, fun _ x => k.lit _ (h.lit _ x), fun _ _ x => k.ρ _ _ (h.ρ _ _ x), fun _ _ x => k.κ _ _ (h.κ _ _ x), fun _ _ _ x => k.G _ _ _ (h.G _ _ _ x)⟩
theorem OwnOk.mono {c c' : Conc} (hl : Le c c') {o : Own} {len sz : Nat} {a : Option Addr} {cap : Nat} (h : OwnOk c o len sz a cap) : OwnOk c' o len sz a cap := by
  cases o with
  | st s =>
    rcases h with ⟨h1, h2⟩ | ⟨b, h1, h2⟩
    · exact .inl ⟨hl.κ _ _ h1, h2⟩
    · exact .inr ⟨b, hl.κ _ _ h1, h2⟩
  | exact => exact ⟨h.1, fun x hx => hl.lit _ (h.2 x hx)⟩
  | _ => exact h
theorem Lies.mono {G G' : GG} (hl : ∀ b o v, G b o = some v → G' b o = some v) {a : Option Addr} {es : List Value} (h : Lies G a es) : Lies G' a es := by
  intro h0
  obtain ⟨b, off, e, h⟩ := h h0
  exact ⟨b, off, e, fun i u hu => hl _ _ _ (h i u hu)⟩
theorem CR.mono {c c' : Conc} (hl : Le c c') {vs : List V} {cs : List Value} (h : CR c vs cs) : CR c' vs cs := by
  induction h with
  | nil => exact .nil
  | lit _ ih => exact .lit ih
  | top _ ih => exact .top ih
  | ptr h _ ih => exact .ptr (hl.ρ _ _ h) ih
  | list _ h1 h0 h2 h3 h4 h5 h7 h6 _ ih1 ih2 => exact .list ih1 h1 h0 h2 h3 h4 (h5.mono hl.G) h7 (h6.mono hl) ih2
  | eptr _ h1 h2 h3 _ ih1 ih2 => exact .eptr ih1 h1 (fun j u hu => hl.G _ _ _ (h2 j u hu)) h3 ih2
  | arr h h1 h2 _ ih => exact .arr (hl.ρ _ _ h) h1 h2 ih
  | fn _ _ _ ih1 ih2 ih3 => exact .fn ih1 ih2 ih3
  | agg _ h _ ih1 ih2 => exact .agg ih1 h ih2
  | tup _ _ ih1 ih2 => exact .tup ih1 ih2

section
variable {c : Conc}
theorem CR.len {vs : List V} {cs : List Value} (h : CR c vs cs) : cs.length = vs.length := by
  induction h <;> simp_all
/-- the head and the rest -/
theorem CR.cons {v : V} {vs : List V} {x : Value} {cs : List Value} (h : CR c [v] [x]) (k : CR c vs cs) : CR c (v :: vs) (x :: cs) := by
  cases h with
  | lit => exact .lit k
  | top => exact .top k
  | ptr h _ => exact .ptr h k
  | list h0 h1 hz h2 h3 h4 h5 hc h6 _ => exact .list h0 h1 hz h2 h3 h4 h5 hc h6 k
  | eptr h0 h1 h2 h3 _ => exact .eptr h0 h1 h2 h3 k
  | arr h h1 h2 _ => exact .arr h h1 h2 k
  | fn h1 h2 _ => exact .fn h1 h2 k
  | agg h h1 _ => exact .agg h h1 k
  | tup h _ => exact .tup h k
theorem CR.uncons {v : V} {vs : List V} {cs : List Value} (h : CR c (v :: vs) cs) : ∃ x xs, cs = x :: xs ∧ CR c [v] [x] ∧ CR c vs xs := by
  cases h with
  | lit h => exact ⟨_, _, rfl, .lit .nil, h⟩
  | top h => exact ⟨_, _, rfl, .top .nil, h⟩
  | ptr h0 h => exact ⟨_, _, rfl, .ptr h0 .nil, h⟩
  | list h0 h1 hz h2 h3 h4 h5 hc h6 h => exact ⟨_, _, rfl, .list h0 h1 hz h2 h3 h4 h5 hc h6 .nil, h⟩
  | eptr h0 h1 h2 h3 h => exact ⟨_, _, rfl, .eptr h0 h1 h2 h3 .nil, h⟩
  | arr h0 h1 h2 h => exact ⟨_, _, rfl, .arr h0 h1 h2 .nil, h⟩
  | fn h1 h2 h => exact ⟨_, _, rfl, .fn h1 h2 .nil, h⟩
  | agg h0 h1 h => exact ⟨_, _, rfl, .agg h0 h1 .nil, h⟩
  | tup h0 h => exact ⟨_, _, rfl, .tup h0 .nil, h⟩
theorem CR.inv_nil {cs : List Value} (h : CR c [] cs) : cs = [] := by cases h; rfl
theorem CR.append {us vs : List V} {xs ys : List Value} (h : CR c us xs) (k : CR c vs ys) : CR c (us ++ vs) (xs ++ ys) := by
  induction us generalizing xs with
  | nil => rw [h.inv_nil]; exact k
  | cons u us ih =>
    obtain ⟨x, xs, rfl, h1, h2⟩ := h.uncons
    exact h1.cons (ih h2)
theorem CR.take {vs : List V} {cs : List Value} (h : CR c vs cs) (n : Nat) : CR c (vs.take n) (cs.take n) := by
  induction n generalizing vs cs with
  | zero => exact .nil
  | succ n ih =>
    cases vs with
    | nil => rw [h.inv_nil]; exact .nil
    | cons v vs => obtain ⟨x, xs, rfl, h1, h2⟩ := h.uncons; exact h1.cons (ih h2)
theorem CR.drop {vs : List V} {cs : List Value} (h : CR c vs cs) (n : Nat) : CR c (vs.drop n) (cs.drop n) := by
  induction n generalizing vs cs with
  | zero => exact h
  | succ n ih =>
    cases vs with
    | nil => rw [h.inv_nil]; exact .nil
    | cons v vs => obtain ⟨x, xs, rfl, h1, h2⟩ := h.uncons; exact ih h2
theorem CR.get {vs : List V} {cs : List Value} (h : CR c vs cs) {i : Nat} {v : V} (hv : vs[i]? = some v) : ∃ x, cs[i]? = some x ∧ CR c [v] [x] := by
  induction i generalizing vs cs with
  | zero =>
    cases vs with
    | nil => cases hv
    | cons u vs =>
      obtain ⟨x, xs, rfl, h1, h2⟩ := h.uncons
      obtain rfl : u = v := by simpa using hv
      exact ⟨x, rfl, h1⟩
  | succ i ih =>
    cases vs with
    | nil => cases hv
    | cons u vs =>
      obtain ⟨x, xs, rfl, h1, h2⟩ := h.uncons
      obtain ⟨y, hy, h3⟩ := ih h2 (by simpa using hv)
      exact ⟨y, by simpa using hy, h3⟩
theorem CR.set {vs : List V} {cs : List Value} (h : CR c vs cs) (i : Nat) {v : V} {x : Value} (hv : CR c [v] [x]) : CR c (vs.set i v) (cs.set i x) := by
  induction i generalizing vs cs with
  | zero =>
    cases vs with
    | nil => rw [h.inv_nil]; exact .nil
    | cons u vs => obtain ⟨y, ys, rfl, h1, h2⟩ := h.uncons; exact hv.cons h2
  | succ i ih =>
    cases vs with
    | nil => rw [h.inv_nil]; exact .nil
    | cons u vs => obtain ⟨y, ys, rfl, h1, h2⟩ := h.uncons; exact h1.cons (ih h2)
theorem CR.inv_one {v : V} {cs : List Value} (h : CR c [v] cs) : ∃ x, cs = [x] ∧ CR c [v] [x] := by
  obtain ⟨x, xs, rfl, h1, h2⟩ := h.uncons
  rw [h2.inv_nil]
  exact ⟨x, rfl, h1⟩
theorem CR.inv_lit {u x : Value} (h : CR c [.lit u] [x]) : x = u := by cases h; rfl
theorem CR.inv_ptr {id : Pa} {off : Nat} {x : Value} (h : CR c [.ptr id off] [x]) : ∃ b, c.ρ id = some b ∧ x = .pointer (some ⟨b, off, none⟩) := by cases h with | ptr h _ => exact ⟨_, h, rfl⟩
theorem CR.inv_agg {us : List V} {x : Value} (h : CR c [.agg us] [x]) : ∃ xs, x = .agg xs.toArray ∧ CR c us xs ∧ ∀ u ∈ xs, u.oneCell' = true := by cases h with | agg h h1 _ => exact ⟨_, rfl, h, h1⟩
theorem CR.inv_tup {us : List V} {x : Value} (h : CR c [.tup us] [x]) : ∃ xs, x = .tuple xs.toArray ∧ CR c us xs := by cases h with | tup h _ => exact ⟨_, rfl, h⟩
theorem CR.inv_fn {f : Fn} {a b : List V} {x : Value} (h : CR c [.fn f a b] [x]) : ∃ xs ys, x = .func f xs.toArray ys.toArray ∧ CR c a xs ∧ CR c b ys := by cases h with | fn h k _ => exact ⟨_, _, rfl, h, k⟩
theorem CR.inv_list {o : Own} {rows : List (List V)} {x : Value} (h : CR c [.list o rows] [x]) : ∃ a cap es sz, x = .slice a rows.length cap ∧ CR c rows.flatten es ∧ (∀ r ∈ rows, r.length = sz) ∧ 0 < sz ∧ rows.length ≤ cap ∧ cap ≤ maxLen ∧
    (0 < rows.length → ∃ b off, a = some ⟨b, off, none⟩) ∧ Lies c.G a es ∧ (∀ u ∈ es, u.oneCell' = true) ∧ OwnOk c o rows.length sz a cap := by
  cases h with | list h0 h1 hz h2 h3 h4 h5 hc h6 _ => exact ⟨_, _, _, _, rfl, h0, h1, hz, h2, h3, h4, h5, hc, h6⟩
theorem CR.inv_eptr {rows : List (List V)} {i off : Nat} {x : Value} (h : CR c [.eptr rows i off] [x]) : ∃ b o sz es, x = .pointer (some ⟨b, o + i * sz + off, none⟩) ∧ CR c rows.flatten es ∧ (∀ r ∈ rows, r.length = sz) ∧ (∀ j u, es[j]? = some u → c.G b (o + j) = some u) ∧ ∀ u ∈ es, u.oneCell' = true := by
  cases h with | eptr h0 h1 h2 h3 _ => exact ⟨_, _, _, _, rfl, h0, h1, h2, h3⟩
theorem CR.inv_arr {id : Pa} {off len cap : Nat} {x : Value} (h : CR c [.arr id off len cap] [x]) : ∃ b, c.ρ id = some b ∧ x = .slice (some ⟨b, off, none⟩) len cap ∧ len ≤ cap ∧ cap ≤ maxLen := by cases h with | arr h h1 h2 _ => exact ⟨_, h, rfl, h1, h2⟩

/-- the cells of a row -/
theorem flatten_at {rows : List (List V)} {sz : Nat} (hs : ∀ r ∈ rows, r.length = sz) {i : Nat} {r : List V} (hr : rows[i]? = some r) : rows.flatten.length = rows.length * sz ∧ (rows.flatten.drop (i * sz)).take sz = r := by
  induction rows generalizing i with
  | nil => cases hr
  | cons q rows ih =>
    have hq : q.length = sz := hs q (by simp)
    have hall : ∀ r ∈ rows, r.length = sz := fun r hr => hs r (by simp [hr])
    have hlen : rows.flatten.length = rows.length * sz := by
      clear ih hr hs
      induction rows with
      | nil => simp
      | cons p rows ih2 => simp [hall p (by simp), ih2 (fun r hr => hall r (by simp [hr])), Nat.succ_mul]; omega
    refine ⟨by simp [hlen, hq, Nat.succ_mul]; omega, ?_⟩
    cases i with
    | zero =>
      obtain rfl : q = r := by simpa using hr
      simp [← hq]
    | succ i =>
      have := (ih hall (by simpa using hr)).2
      rw [List.flatten_cons, Nat.succ_mul, List.drop_append, List.drop_of_length_le (by omega), List.nil_append, hq, show i * sz + sz - sz = i * sz by omega]
      exact this
theorem flatten_len {rows : List (List V)} {sz : Nat} (hs : ∀ r ∈ rows, r.length = sz) : rows.flatten.length = rows.length * sz := by
  induction rows with
  | nil => simp
  | cons p rows ih => simp [hs p (by simp), ih (fun r hr => hs r (by simp [hr])), Nat.succ_mul]; omega
end
end Go.Proofs.YtolhahlnccekcaaDoor.Abs
namespace Go.Proofs.YtolhahlnccekcaaDoor.Abs
open Go.RowKit

def V.ld (s : Stamp) : V → V
  | .list .self rows => .list (.st s) rows
  | v => v
/-- what is read out of a block's cells -/
def lds (ver : Nat → Nat) (id : Pa) (vs : List V) : List V := vs.mapIdx fun off v => v.ld (.cell id off (ver off))

def liveB (m : M) : Stamp → Bool
  | .anon id j => m.tok id j
  | .cell id off v => m.ver id off == v && (match m.blk id with | some vs => (match vs[off]? with | some (.list .self _) => true | _ => false) | none => false)

def FreshAt (c : Conc) (id : Pa) : Prop := c.ρ id = none ∧ (∀ i, c.κ (.anon id i) = none) ∧ ∀ off v, c.κ (.cell id off v) = none
theorem FreshAt.anti {c c' : Conc} (hl : Le c c') {id : Pa} (h : FreshAt c' id) : FreshAt c id := by
  refine ⟨?_, fun i => ?_, fun off v => ?_⟩
  · cases hx : c.ρ id with
    | none => rfl
    | some b => have := hl.ρ _ _ hx; rw [h.1] at this; cases this
  · cases hx : c.κ (.anon id i) with
    | none => rfl
    | some b => have := hl.κ _ _ hx; rw [h.2.1] at this; cases this
  · cases hx : c.κ (.cell id off v) with
    | none => rfl
    | some b => have := hl.κ _ _ hx; rw [h.2.2] at this; cases this
def Owned (c : Conc) (m : M) (b : Nat) : Prop := (∃ id, m.blk id ≠ none ∧ c.ρ id = some b) ∨ ∃ s cap sz len, liveB m s = true ∧ c.κ s = some (.arr b cap sz len)
structure Rep (c : Conc) (m : M) (w : World) : Prop where
  com : Com w c.G
  blk : ∀ id vs, m.blk id = some vs → ∃ b cs t, c.ρ id = some b ∧ Blk w b t cs ∧ CR c (lds (m.ver id) id vs) cs.toList ∧ Out c.G b ∧ ∀ u ∈ cs.toList, u.oneCell' = true
  inj : ∀ id id' b, m.blk id ≠ none → m.blk id' ≠ none → c.ρ id = some b → c.ρ id' = some b → id = id'
  own : ∀ s b cap sz len, liveB m s = true → c.κ s = some (.arr b cap sz len) → (∃ cs t, Blk w b t cs ∧ cs.size = cap * sz) ∧ (∀ o, len * sz ≤ o → c.G b o = none) ∧ (∀ id, m.blk id ≠ none → c.ρ id ≠ some b) ∧ len ≤ cap ∧ 0 < sz
  ownInj : ∀ s s' b cap sz len cap' sz' len', liveB m s = true → liveB m s' = true → c.κ s = some (.arr b cap sz len) → c.κ s' = some (.arr b cap' sz' len') → s = s'
  ver : ∀ id off v, m.blk id ≠ none → m.ver id off < v → c.κ (.cell id off v) = none
  gl : ∀ g, CR c [m.gl g] [.pointer (some ⟨g, 0, none⟩)]
  ver0 : ∀ id, FreshAt c id → (∀ off, m.ver id off = 0) ∧ ∀ j, m.tok id j = false
  base : c.base ≤ w.heap.size
  lit : ∀ b, c.lit b → c.base ≤ b ∧ b < w.heap.size ∧ ¬ Owned c m b

/-- nothing that is at or under a path is known -/
def FreshU (c : Conc) (q : Pa) : Prop := ∀ id, q <:+ id → FreshAt c id
def FreshK (c : Conc) (π : Pa) (k : Nat) : Prop := ∀ j, k ≤ j → FreshU c (j :: π)


/-- nothing is under a path's own name, but perhaps a block that nobody looks at -/
structure Blank (c : Conc) (m : M) (id : Pa) : Prop where
  blk : m.blk id = none
  anon : ∀ i, c.κ (.anon id i) = none
  cell : ∀ off v, c.κ (.cell id off v) = none
  ver : ∀ off, m.ver id off = 0
  tok : ∀ j, m.tok id j = false

structure Ext (q : Pa) (c : Conc) (m : M) (w : World) (c' : Conc) (m' : M) (w' : World) : Prop where
  le : Le c c'
  os : w'.os = w.os
  tape : w'.tape = w.tape
  output : w'.output = w.output
  size : w.heap.size ≤ w'.heap.size
  heap : ∀ b, b < w.heap.size → ¬ Owned c m b → (b < c.base ∨ Out c.G b) → w'.heap[b]? = w.heap[b]?
  book : ∀ b, b < w.heap.size → ¬ Owned c m b → ∀ o, c'.G b o = c.G b o
  own : ∀ b, b < w.heap.size → Owned c' m' b → Owned c m b
  fresh : ∀ id, ¬ q <:+ id → FreshAt c id → FreshAt c' id
  keep : ∀ id, ¬ q <:+ id → Blank c m id → Blank c' m' id
  lits : ∀ b, b < w.heap.size → c'.lit b → c.lit b

theorem Ext.refl (q : Pa) (c : Conc) (m : M) (w : World) : Ext q c m w c m w := ⟨.refl c, rfl, rfl, rfl, Nat.le_refl _, fun _ _ _ _ => rfl, fun _ _ _ _ => rfl, fun _ _ h => h, fun _ _ h => h, fun _ _ h => h, fun _ _ h => h⟩
theorem Ext.trans {q : Pa} {c c' c'' : Conc} {m m' m'' : M} {w w' w'' : World} (h : Ext q c m w c' m' w') (k : Ext q c' m' w' c'' m'' w'') : Ext q c m w c'' m'' w'' :=
  ⟨h.le.trans k.le, k.os.trans h.os, k.tape.trans h.tape, k.output.trans h.output, Nat.le_trans h.size k.size,
   fun b hb ho hx => (k.heap b (Nat.lt_of_lt_of_le hb h.size) (fun x => ho (h.own b hb x)) (hx.imp (fun e => by rw [h.le.base]; exact e) (fun e o => (h.book b hb ho o).trans (e o)))).trans (h.heap b hb ho hx),
   fun b hb ho o => (k.book b (Nat.lt_of_lt_of_le hb h.size) (fun x => ho (h.own b hb x)) o).trans (h.book b hb ho o),
   fun b hb x => h.own b hb (k.own b (Nat.lt_of_lt_of_le hb h.size) x), fun id hid x => k.fresh id hid (h.fresh id hid x), fun id hid x => k.keep id hid (h.keep id hid x), fun b hb x => h.lits b hb (k.lits b (Nat.lt_of_lt_of_le hb h.size) x)⟩
theorem Ext.widen {q π : Pa} {c c' : Conc} {m m' : M} {w w' : World} (h : Ext q c m w c' m' w') (hs : ∀ id, q <:+ id → π <:+ id) : Ext π c m w c' m' w' :=
  ⟨h.le, h.os, h.tape, h.output, h.size, h.heap, h.book, h.own, fun id hid x => h.fresh id (fun y => hid (hs id y)) x, fun id hid x => h.keep id (fun y => hid (hs id y)) x, h.lits⟩
theorem under_tail {π : Pa} {j : Nat} {id : Pa} (h : (j :: π) <:+ id) : π <:+ id := (List.suffix_cons j π).trans h
theorem Ext.up {π : Pa} {k : Nat} {c c' : Conc} {m m' : M} {w w' : World} (h : Ext (k :: π) c m w c' m' w') : Ext π c m w c' m' w' := h.widen fun _ => under_tail
theorem not_under {π : Pa} {j k : Nat} {id : Pa} (h : (j :: π) <:+ id) (hne : j ≠ k) : ¬ (k :: π) <:+ id := by
  intro h2
  obtain ⟨x, hx⟩ := h
  obtain ⟨y, hy⟩ := h2
  have hl : (x ++ [j]).length = (y ++ [k]).length := by
    have h1 := congrArg List.length hx
    have h2 := congrArg List.length hy
    simp at h1 h2 ⊢
    omega
  have he : x ++ [j] ++ π = y ++ [k] ++ π := by simp [hx, hy]
  have := (List.append_inj he hl).1
  have := (List.append_inj this (by simpa using hl)).2
  simp at this
  exact hne this
theorem Ext.freshK {π : Pa} {k : Nat} {c c' : Conc} {m m' : M} {w w' : World} (h : Ext (k :: π) c m w c' m' w') (hf : FreshK c π k) : FreshK c' π (k + 1) :=
  fun j hj id hid => h.fresh id (not_under hid (by omega)) (hf j (by omega) id hid)
theorem FreshK.le {c : Conc} {π : Pa} {k k' : Nat} (h : FreshK c π k) (hk : k ≤ k') : FreshK c π k' := fun j hj => h j (Nat.le_trans hk hj)
theorem FreshK.at_ {c : Conc} {π : Pa} {k : Nat} (h : FreshK c π k) : FreshU c (k :: π) := h k (Nat.le_refl _)
theorem FreshU.at_ {c : Conc} {q : Pa} (h : FreshU c q) : FreshAt c q := h q (List.suffix_refl q)
theorem FreshU.sub {c : Conc} {q : Pa} (h : FreshU c q) : FreshK c q 0 := fun _ _ id hid => h id (under_tail hid)

section
variable {c : Conc} {m : M} {w : World}
theorem Rep.fresh_blk (h : Rep c m w) {q : Pa} (hf : FreshAt c q) : m.blk q = none := by
  cases hb : m.blk q with
  | none => rfl
  | some vs => obtain ⟨b, cs, t, hr, _⟩ := h.blk q vs hb; rw [hf.1] at hr; cases hr
theorem Rep.lt (h : Rep c m w) {id : Pa} {b : Nat} (hb : m.blk id ≠ none) (hr : c.ρ id = some b) : b < w.heap.size := by
  obtain ⟨vs, hv⟩ : ∃ vs, m.blk id = some vs := by cases hx : m.blk id with | none => exact absurd hx hb | some vs => exact ⟨vs, rfl⟩
  obtain ⟨b', cs, t, hr', hB, _⟩ := h.blk id vs hv
  rw [hr] at hr'; injection hr' with hr'; subst hr'
  exact hB.lt
theorem Rep.own_lt (h : Rep c m w) {b : Nat} (ho : Owned c m b) : b < w.heap.size := by
  rcases ho with ⟨id, hb, hr⟩ | ⟨s, cap, sz, len, hl, hk⟩
  · exact h.lt hb hr
  · obtain ⟨⟨cs, t, hB, _⟩, _⟩ := h.own s b cap sz len hl hk
    exact hB.lt
/-- the world may be drawn from -/
theorem Rep.drewN (h : Rep c m w) (n : Nat) : Rep c m (w.drewN n) := ⟨h.com.drewN n, h.blk, h.inj, h.own, h.ownInj, h.ver, h.gl, h.ver0, h.base, h.lit⟩
theorem Ext.drewN (q : Pa) (c : Conc) (m : M) (w : World) (n : Nat) : Ext q c m w c m (w.drewN n) := ⟨.refl c, rfl, rfl, rfl, Nat.le_refl _, fun _ _ _ _ => rfl, fun _ _ _ _ => rfl, fun _ _ h => h, fun _ _ h => h, fun _ _ h => h, fun _ _ h => h⟩

/-- new blocks, that nobody knows -/
theorem Rep.grown (h : Rep c m w) {w' : World} (hg : w.grownBy w' none) : Rep c m w' := by
  refine ⟨h.com.grown hg only_none, fun id vs hv => ?_, h.inj, fun s b cap sz len hl hk => ?_, h.ownInj, h.ver, h.gl, h.ver0, Nat.le_trans h.base hg.size, fun b hb => ⟨(h.lit b hb).1, Nat.lt_of_lt_of_le (h.lit b hb).2.1 hg.size, (h.lit b hb).2.2⟩⟩
  · obtain ⟨b, cs, t, hr, hB, h1, h2, h3⟩ := h.blk id vs hv
    exact ⟨b, cs, t, hr, hB.grown hg (by simp), h1, h2, h3⟩
  · obtain ⟨⟨cs, t, hB, hs⟩, h1⟩ := h.own s b cap sz len hl hk
    exact ⟨⟨cs, t, hB.grown hg (by simp), hs⟩, h1⟩
theorem Rep.ext_grown (q : Pa) (c : Conc) (m : M) {w w' : World} (hg : w.grownBy w' none) : Ext q c m w c m w' :=
  ⟨.refl c, hg.os, hg.tape, hg.output, hg.size, fun b hb _ _ => hg.block b hb (by simp), fun _ _ _ _ => rfl, fun _ _ h => h, fun _ _ h => h, fun _ _ h => h, fun _ _ h => h⟩

/-- the book grows at new blocks that nobody owns -/
def Conc.laid (c : Conc) (b : Nat) (cs : List Value) : Conc := { c with G := lay c.G b cs }
theorem Le.laid {b : Nat} {cs : List Value} (ho : Out c.G b) : Le c (c.laid b cs) := ⟨rfl, fun _ h => h, fun _ _ h => h, fun _ _ h => h, (lay_ext (B := b) (cs := cs) ho (Nat.le_refl _)).le⟩
theorem Rep.laid (h : Rep c m w) {b : Nat} {cs : List Value} (ho : Out c.G b) (hn : ¬ Owned c m b) (hc : ∀ i u, cs[i]? = some u → w.cell? ⟨b, i, none⟩ = some u) : Rep (c.laid b cs) m w := by
  have hl := Le.laid (cs := cs) ho
  refine ⟨lay_com h.com hc, fun id vs hv => ?_, h.inj, fun s b' cap sz len hlv hk => ?_, h.ownInj, h.ver, fun g => (h.gl g).mono hl, fun id hf => h.ver0 id (hf.anti hl), h.base, h.lit⟩
  · obtain ⟨b', xs, t, hr, hB, h1, h2, h3⟩ := h.blk id vs hv
    refine ⟨b', xs, t, hr, hB, h1.mono hl, lay_out h2 (fun e => hn (.inl ⟨id, by rw [hv]; simp, by rw [← e]; exact hr⟩)), h3⟩
  · obtain ⟨h1, h2, h3⟩ := h.own s b' cap sz len hlv hk
    refine ⟨h1, fun o hob => ?_, h3⟩
    have hne : b' ≠ b := fun e => hn (.inr ⟨s, cap, sz, len, hlv, by rw [← e]; exact hk⟩)
    show lay c.G b cs b' o = none
    unfold lay; rw [if_neg hne]; exact h2 o hob
theorem Rep.ext_laid (h : Rep c m w) (q : Pa) {B b : Nat} {cs : List Value} (hB : w.heap.size ≤ B) (hb : B ≤ b) (w' : World) (hg : w.grownBy w' none) : Ext q c m w (c.laid b cs) m w' := by
  have ho : Out c.G b := h.com.out (Nat.le_trans hB hb)
  refine ⟨Le.laid ho, hg.os, hg.tape, hg.output, hg.size, fun b' hb' _ _ => hg.block b' hb' (by simp), fun b' hb' _ o => ?_, fun _ _ h => h, fun _ _ h => h, fun _ _ h => ⟨h.blk, h.anon, h.cell, h.ver, h.tok⟩, fun _ _ h => h⟩
  show lay c.G b cs b' o = c.G b' o
  unfold lay; rw [if_neg (by omega)]
end
end Go.Proofs.YtolhahlnccekcaaDoor.Abs
namespace Go.Proofs.YtolhahlnccekcaaDoor.Abs
open Go.RowKit

def M.set (m : M) (id : Pa) (vs : List V) : M := { m with blk := fun i => if i = id then some vs else m.blk i }
def M.bump (m : M) (id : Pa) (off : Nat) : M := { m with ver := fun i o => if i = id ∧ o = off then m.ver i o + 1 else m.ver i o }
def M.tokset (m : M) (id : Pa) (j : Nat) (b : Bool) : M := { m with tok := fun i k => if i = id ∧ k = j then b else m.tok i k }

/-- a value as a variable holds it, whoever else holds it -/
def V.raw0 : V → V
  | .list .exact rows => .list .self rows
  | .list (.st _) [] => .list .self []
  | .list _ rows => .list .none rows
  | v => v

section
variable {c c' : Conc} {m : M} {w w' : World}

theorem V.raw0_one {v : V} {x : Value} (hl : Le c c') {s : Stamp} (hk : c'.κ s = some .full) (h : CR c [v] [x]) : CR c' [v.raw0.ld s] [x] := by
  have h' := h.mono hl
  cases v with
  | list o rows =>
    obtain ⟨a, cap, es, sz, rfl, h1, h2, hz, h3, h4, h5, h6, hc, h7⟩ := h'.inv_list
    cases o with
    | none => exact .list h1 h2 hz h3 h4 h5 h6 hc trivial .nil
    | exact => exact .list h1 h2 hz h3 h4 h5 h6 hc (.inl ⟨hk, h7.1⟩) .nil
    | self => exact h7.elim
    | st s' =>
      cases rows with
      | nil =>
        have hc0 : cap = 0 := by
          rcases h7 with ⟨_, h⟩ | ⟨b, _, _, h⟩
          · exact h
          · simp at h
        subst hc0
        exact .list h1 h2 hz h3 h4 h5 h6 hc (.inl ⟨hk, rfl⟩) .nil
      | cons r rows => exact .list h1 h2 hz h3 h4 h5 h6 hc trivial .nil
  | _ => simpa [V.raw0, V.ld] using h'
theorem lds_raw0 {vs : List V} {cs : List Value} (hl : Le c c') (h : CR c vs cs) {f : Nat → Stamp} (hk : ∀ n, c'.κ (f n) = some .full) : CR c' ((vs.map V.raw0).mapIdx fun off v => v.ld (f off)) cs := by
  induction vs generalizing cs f with
  | nil => rw [h.inv_nil]; exact .nil
  | cons v vs ih =>
    obtain ⟨x, xs, rfl, h1, h2⟩ := h.uncons
    rw [List.map_cons, List.mapIdx_cons]
    exact (V.raw0_one hl (hk 0) h1).cons (ih h2 (f := fun n => f (n + 1)) (fun n => hk (n + 1)))

theorem liveB_cell {id : Pa} {off v : Nat} (h : liveB m (.cell id off v) = true) : m.ver id off = v ∧ ∃ vs rows, m.blk id = some vs ∧ vs[off]? = some (.list .self rows) := by
  simp only [liveB, Bool.and_eq_true, beq_iff_eq] at h
  refine ⟨h.1, ?_⟩
  have h2 := h.2
  split at h2
  · rename_i vs hv
    split at h2
    · rename_i rows hr; exact ⟨vs, rows, hv, hr⟩
    · cases h2
  · cases h2
theorem liveB_mk {id : Pa} {off v : Nat} {vs : List V} {rows : List (List V)} (h1 : m.ver id off = v) (h2 : m.blk id = some vs) (h3 : vs[off]? = some (.list .self rows)) : liveB m (.cell id off v) = true := by
  simp [liveB, h1, h2, h3]

/-- a new block of one's own -/
def Conc.new (c : Conc) (q : Pa) (b : Nat) : Conc :=
  { c with ρ := fun id => if id = q then some b else c.ρ id, κ := fun s => match s with | .cell id off v => if id = q then some .full else c.κ (.cell id off v) | s => c.κ s }
theorem Rep.new (h : Rep c m w) {q : Pa} (hf : FreshAt c q) {vs : List V} {cs : List Value} (hc : CR c vs cs) (h1 : ∀ u ∈ cs, u.oneCell' = true) (t : TypeId) :
    Rep { c.new q w.heap.size with κ := fun s => match s with | .cell id off v => if id = q ∧ v = 0 then some .full else c.κ (.cell id off v) | s => c.κ s } (m.set q (vs.map V.raw0)) (w.alloc (.cells cs.toArray t)) ∧
    Ext q c m w { c.new q w.heap.size with κ := fun s => match s with | .cell id off v => if id = q ∧ v = 0 then some .full else c.κ (.cell id off v) | s => c.κ s } (m.set q (vs.map V.raw0)) (w.alloc (.cells cs.toArray t)) := by
  have hv0 := (h.ver0 q hf).1
  obtain ⟨c', hc'⟩ : ∃ c' : Conc, c' = { c.new q w.heap.size with κ := fun s => match s with | .cell id off v => if id = q ∧ v = 0 then some .full else c.κ (.cell id off v) | s => c.κ s } := ⟨_, rfl⟩
  rw [← hc']
  have hρ : ∀ id, c'.ρ id = if id = q then some w.heap.size else c.ρ id := by intro id; rw [hc']; rfl
  have hκa : ∀ id j, c'.κ (.anon id j) = c.κ (.anon id j) := by intro id j; rw [hc']
  have hκc : ∀ id off v, c'.κ (.cell id off v) = if id = q ∧ v = 0 then some .full else c.κ (.cell id off v) := by intro id off v; rw [hc']
  have hG : c'.G = c.G := by rw [hc']; rfl
  have hbase : c'.base = c.base := by rw [hc']; rfl
  have hlit : c'.lit = c.lit := by rw [hc']; rfl
  clear hc'
  have hle : Le c c' := by
    refine ⟨hbase, fun b h => by rw [hlit]; exact h, fun id b h => ?_, fun s i h => ?_, fun b o v h => by rw [hG]; exact h⟩
    · rw [hρ]; split
      · rename_i e; subst e; rw [hf.1] at h; cases h
      · exact h
    · cases s with
      | anon id j => rw [hκa]; exact h
      | cell id off v =>
        rw [hκc]; split
        · rename_i e; obtain ⟨rfl, _⟩ := e; rw [hf.2.2] at h; cases h
        · exact h
  have hnb := h.fresh_blk hf
  have hgr : w.grownBy (w.alloc (.cells cs.toArray t)) none := galloc (grefl w none) _
  have hcom : Com (w.alloc (.cells cs.toArray t)) c'.G := by rw [hG]; exact h.com.alloc _
  have hset : ∀ id, (m.set q (vs.map V.raw0)).blk id = if id = q then some (vs.map V.raw0) else m.blk id := fun id => rfl
  have harr : ∀ s b cap sz len, c'.κ s = some (.arr b cap sz len) → c.κ s = some (.arr b cap sz len) := by
    intro s b cap sz len hk
    cases s with
    | anon id j => rw [hκa] at hk; exact hk
    | cell id off v =>
      rw [hκc] at hk
      split at hk
      · cases hk
      · exact hk
  have hlive : ∀ s b cap sz len, liveB (m.set q (vs.map V.raw0)) s = true → c.κ s = some (.arr b cap sz len) → liveB m s = true := by
    intro s b cap sz len hl hk
    cases s with
    | anon id j => exact hl
    | cell id off v =>
      obtain ⟨h1, xs, rows, h2, h3⟩ := liveB_cell hl
      rw [hset] at h2
      split at h2
      · rename_i e; subst e; rw [hf.2.2] at hk; cases hk
      · exact liveB_mk h1 h2 h3
  have hown : ∀ b, b < w.heap.size → Owned c' (m.set q (vs.map V.raw0)) b → Owned c m b := by
    intro b hb ho
    rcases ho with ⟨id, hid, hr⟩ | ⟨s, cap, sz, len, hl, hk⟩
    · rw [hset] at hid; rw [hρ] at hr
      split at hr
      · injection hr with hr; omega
      · rename_i e; rw [if_neg e] at hid; exact .inl ⟨id, hid, hr⟩
    · have k1 := harr _ _ _ _ _ hk
      exact .inr ⟨s, cap, sz, len, hlive _ _ _ _ _ hl k1, k1⟩
  refine ⟨⟨hcom, fun id xs hx => ?_, fun id id' b hb hb' hr hr' => ?_, fun s b cap sz len hl hk => ?_, fun s s' b cap sz len cap' sz' len' hl hl' hk hk' => ?_, fun id off v hb hv => ?_, fun g => (h.gl g).mono hle, fun id hfr => h.ver0 id (hfr.anti hle), by rw [hbase]; exact Nat.le_trans h.base hgr.size, fun b hb => by
    rw [hlit] at hb; rw [hbase]
    obtain ⟨l1, l2, l3⟩ := h.lit b hb
    exact ⟨l1, Nat.lt_of_lt_of_le l2 hgr.size, fun ho => l3 (hown b l2 ho)⟩⟩, ?_⟩
  · rw [hset] at hx
    split at hx
    · rename_i e
      subst e
      injection hx with hx
      subst hx
      refine ⟨w.heap.size, cs.toArray, t, by rw [hρ, if_pos rfl], Blk.new _ _ _, ?_, by rw [hG]; exact h.com.out (Nat.le_refl _), by simpa using h1⟩
      exact lds_raw0 hle hc (fun n => by rw [hκc, if_pos ⟨rfl, hv0 n⟩])
    · rename_i e
      obtain ⟨b, ys, t', hr, hB, k1, k2, k3⟩ := h.blk id xs hx
      exact ⟨b, ys, t', by rw [hρ, if_neg e]; exact hr, hB.alloc _, k1.mono hle, by rw [hG]; exact k2, k3⟩
  · rw [hset] at hb hb'
    rw [hρ] at hr hr'
    by_cases e1 : id = q <;> by_cases e2 : id' = q
    · rw [e1, e2]
    · rw [if_pos e1] at hr; rw [if_neg e2] at hr' hb'
      injection hr with hr; have := h.lt hb' hr'; omega
    · rw [if_neg e1] at hr hb; rw [if_pos e2] at hr'
      injection hr' with hr'; have := h.lt hb hr; omega
    · rw [if_neg e1] at hr hb; rw [if_neg e2] at hr' hb'
      exact h.inj id id' b hb hb' hr hr'
  · have hk0 := harr _ _ _ _ _ hk
    obtain ⟨⟨xs, t', hB, hs⟩, k1, k2, k3⟩ := h.own s b cap sz len (hlive _ _ _ _ _ hl hk0) hk0
    refine ⟨⟨xs, t', hB.alloc _, hs⟩, by rw [hG]; exact k1, fun id hid hr => ?_, k3⟩
    rw [hset] at hid; rw [hρ] at hr
    split at hr
    · injection hr with hr; have := hB.lt; omega
    · rename_i e; rw [if_neg e] at hid; exact k2 id hid hr
  · have k1 := harr _ _ _ _ _ hk
    have k2 := harr _ _ _ _ _ hk'
    exact h.ownInj s s' b cap sz len cap' sz' len' (hlive _ _ _ _ _ hl k1) (hlive _ _ _ _ _ hl' k2) k1 k2
  · rw [hκc]
    have hv' : m.ver id off < v := hv
    rw [if_neg (by rintro ⟨_, rfl⟩; omega)]
    rw [hset] at hb
    by_cases e : id = q
    · rw [e]; exact hf.2.2 off v
    · rw [if_neg e] at hb; exact h.ver id off v hb hv'
  · refine ⟨hle, rfl, rfl, rfl, hgr.size, fun b hb _ _ => hgr.block b hb (by simp), fun b _ _ o => by rw [hG], fun b hb ho => ?_, fun id hid hfr => ?_, fun id hid hbk => ?_, fun b _ hb => by rw [hlit] at hb; exact hb⟩
    · exact hown b hb ho
    · have hne : id ≠ q := by rintro rfl; exact hid (List.suffix_refl _)
      exact ⟨by rw [hρ, if_neg hne]; exact hfr.1, fun i => by rw [hκa]; exact hfr.2.1 i, fun off v => by rw [hκc, if_neg (by rintro ⟨e, _⟩; exact hne e)]; exact hfr.2.2 off v⟩
    · have hne : id ≠ q := by rintro rfl; exact hid (List.suffix_refl _)
      exact ⟨by rw [hset, if_neg hne]; exact hbk.blk, fun i => by rw [hκa]; exact hbk.anon i, fun off v => by rw [hκc, if_neg (by rintro ⟨e, _⟩; exact hne e)]; exact hbk.cell off v, hbk.ver, hbk.tok⟩
end
end Go.Proofs.YtolhahlnccekcaaDoor.Abs
