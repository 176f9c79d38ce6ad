/-
  Own helper theorems of no one function: values seen from above (V), a memory seen from above (M), and what a world must be for them (Rep).
-/
import Derived.Test.YtolhahlnccekcaaDoorBase
namespace Go.Proofs.YtolhahlnccekcaaDoor.Abs
open Go.RowKit

abbrev Pa := List Nat

inductive Stamp where
  | anon (id : Pa) (j : Nat)
  | cell (id : Pa) (off ver : Nat)
  deriving DecidableEq

/-- who may append to a slice: nobody; anybody (its capacity is its length); the cell that holds it; who holds the stamp -/
inductive Own where
  | none
  | exact
  | self
  | st (s : Stamp)
  deriving DecidableEq

inductive V where
  | lit (v : Value)
  | top
  | ptr (id : Pa) (off : Nat)
  | list (o : Own) (rows : List (List V))
  | eptr (rows : List (List V)) (i off : Nat)
  | arr (id : Pa) (off len cap : Nat)
  | fn (f : Fn) (first captured : List V)
  | agg (cells : List V)
  | tup (vs : List V)
  deriving Inhabited

structure M where
  blk : Pa → Option (List V)
  ver : Pa → Nat → Nat
  tok : Pa → Nat → Bool
  gl : Nat → V

inductive Info where
  | full
  | arr (b cap sz len : Nat)

structure Conc where
  base : Nat
  lit : Nat → Prop
  ρ : Pa → Option Nat
  κ : Stamp → Option Info
  G : GG

def OwnOk (c : Conc) (o : Own) (len sz : Nat) (a : Option Addr) (cap : Nat) : Prop :=
  match o with
  | .none => True
  | .exact => cap = len ∧ ∀ x, a = some x → c.lit x.block
  | .self => False
  | .st s => (c.κ s = some .full ∧ cap = len) ∨ ∃ b, c.κ s = some (.arr b cap sz len) ∧ a = some ⟨b, 0, none⟩ ∧ 0 < len

/-- where the cells of a list lie -/
def Lies (G : GG) (a : Option Addr) (es : List Value) : Prop := 0 < es.length → ∃ b off, a = some ⟨b, off, none⟩ ∧ ∀ i u, es[i]? = some u → G b (off + i) = some u

inductive CR (c : Conc) : List V → List Value → Prop where
  | nil : CR c [] []
  | lit {v vs cs} : CR c vs cs → CR c (.lit v :: vs) (v :: cs)
  | top {v vs cs} : CR c vs cs → CR c (.top :: vs) (v :: cs)
  | ptr {id off b vs cs} : c.ρ id = some b → CR c vs cs → CR c (.ptr id off :: vs) (.pointer (some ⟨b, off, none⟩) :: cs)
  | list {o rows es sz a cap vs cs} : CR c rows.flatten es → (∀ r ∈ rows, r.length = sz) → 0 < sz → rows.length ≤ cap → cap ≤ maxLen → (0 < rows.length → ∃ b off, a = some ⟨b, off, none⟩) → Lies c.G a es → (∀ u ∈ es, u.oneCell' = true) → OwnOk c o rows.length sz a cap → CR c vs cs →
      CR c (.list o rows :: vs) (.slice a rows.length cap :: cs)
  | eptr {rows es sz i off b o vs cs} : CR c rows.flatten es → (∀ r ∈ rows, r.length = sz) → (∀ j u, es[j]? = some u → c.G b (o + j) = some u) → (∀ u ∈ es, u.oneCell' = true) → CR c vs cs →
      CR c (.eptr rows i off :: vs) (.pointer (some ⟨b, o + i * sz + off, none⟩) :: cs)
  | arr {id off len cap b vs cs} : c.ρ id = some b → len ≤ cap → cap ≤ maxLen → CR c vs cs → CR c (.arr id off len cap :: vs) (.slice (some ⟨b, off, none⟩) len cap :: cs)
  | fn {f first captured xs ys vs cs} : CR c first xs → CR c captured ys → CR c vs cs → CR c (.fn f first captured :: vs) (.func f xs.toArray ys.toArray :: cs)
  | agg {us xs vs cs} : CR c us xs → (∀ u ∈ xs, u.oneCell' = true) → CR c vs cs → CR c (.agg us :: vs) (.agg xs.toArray :: cs)
  | tup {us xs vs cs} : CR c us xs → CR c vs cs → CR c (.tup us :: vs) (.tuple xs.toArray :: cs)

/-- c' knows more than c -/
structure Le (c c' : Conc) : Prop where
  base : c'.base = c.base
  lit : ∀ b, c.lit b → c'.lit b
  ρ : ∀ id b, c.ρ id = some b → c'.ρ id = some b
  κ : ∀ s i, c.κ s = some i → c'.κ s = some i
  G : ∀ b o v, c.G b o = some v → c'.G b o = some v

theorem Le.refl (c : Conc) : Le c c := ⟨rfl, fun _ h => h, fun _ _ h => h, fun _ _ h => h, fun _ _ _ h => h⟩
theorem Le.trans {a b c : Conc} (h : Le a b) (k : Le b c) : Le a c := ⟨k.base.trans h.base, fun _ x => k.lit _ (h.lit _ x), fun _ _ x => k.ρ _ _ (h.ρ _ _ x), fun _ _ x => k.κ _ _ (h.κ _ _ x), fun _ _ _ x => k.G _ _ _ (h.G _ _ _ x)⟩
theorem OwnOk.mono {c c' : Conc} (hl : Le c c') {o : Own} {len sz : Nat} {a : Option Addr} {cap : Nat} (h : OwnOk c o len sz a cap) : OwnOk c' o len sz a cap := by
  cases o with
  | st s =>
    rcases h with ⟨h1, h2⟩ | ⟨b, h1, h2⟩
    · exact .inl ⟨hl.κ _ _ h1, h2⟩
    · exact .inr ⟨b, hl.κ _ _ h1, h2⟩
  | exact => exact ⟨h.1, fun x hx => hl.lit _ (h.2 x hx)⟩
  | _ => exact h
theorem Lies.mono {G G' : GG} (hl : ∀ b o v, G b o = some v → G' b o = some v) {a : Option Addr} {es : List Value} (h : Lies G a es) : Lies G' a es := by
  intro h0
  obtain ⟨b, off, e, h⟩ := h h0
  exact ⟨b, off, e, fun i u hu => hl _ _ _ (h i u hu)⟩
theorem CR.mono {c c' : Conc} (hl : Le c c') {vs : List V} {cs : List Value} (h : CR c vs cs) : CR c' vs cs := by
  induction h with
  | nil => exact .nil
  | lit _ ih => exact .lit ih
  | top _ ih => exact .top ih
  | ptr h _ ih => exact .ptr (hl.ρ _ _ h) ih
  | list _ h1 h0 h2 h3 h4 h5 h7 h6 _ ih1 ih2 => exact .list ih1 h1 h0 h2 h3 h4 (h5.mono hl.G) h7 (h6.mono hl) ih2
  | eptr _ h1 h2 h3 _ ih1 ih2 => exact .eptr ih1 h1 (fun j u hu => hl.G _ _ _ (h2 j u hu)) h3 ih2
  | arr h h1 h2 _ ih => exact .arr (hl.ρ _ _ h) h1 h2 ih
  | fn _ _ _ ih1 ih2 ih3 => exact .fn ih1 ih2 ih3
  | agg _ h _ ih1 ih2 => exact .agg ih1 h ih2
  | tup _ _ ih1 ih2 => exact .tup ih1 ih2

section
variable {c : Conc}
theorem CR.len {vs : List V} {cs : List Value} (h : CR c vs cs) : cs.length = vs.length := by
  induction h <;> simp_all
/-- the head and the rest -/
theorem CR.cons {v : V} {vs : List V} {x : Value} {cs : List Value} (h : CR c [v] [x]) (k : CR c vs cs) : CR c (v :: vs) (x :: cs) := by
  cases h with
  | lit => exact .lit k
  | top => exact .top k
  | ptr h _ => exact .ptr h k
  | list h0 h1 hz h2 h3 h4 h5 hc h6 _ => exact .list h0 h1 hz h2 h3 h4 h5 hc h6 k
  | eptr h0 h1 h2 h3 _ => exact .eptr h0 h1 h2 h3 k
  | arr h h1 h2 _ => exact .arr h h1 h2 k
  | fn h1 h2 _ => exact .fn h1 h2 k
  | agg h h1 _ => exact .agg h h1 k
  | tup h _ => exact .tup h k
theorem CR.uncons {v : V} {vs : List V} {cs : List Value} (h : CR c (v :: vs) cs) : ∃ x xs, cs = x :: xs ∧ CR c [v] [x] ∧ CR c vs xs := by
  cases h with
  | lit h => exact ⟨_, _, rfl, .lit .nil, h⟩
  | top h => exact ⟨_, _, rfl, .top .nil, h⟩
  | ptr h0 h => exact ⟨_, _, rfl, .ptr h0 .nil, h⟩
  | list h0 h1 hz h2 h3 h4 h5 hc h6 h => exact ⟨_, _, rfl, .list h0 h1 hz h2 h3 h4 h5 hc h6 .nil, h⟩
  | eptr h0 h1 h2 h3 h => exact ⟨_, _, rfl, .eptr h0 h1 h2 h3 .nil, h⟩
  | arr h0 h1 h2 h => exact ⟨_, _, rfl, .arr h0 h1 h2 .nil, h⟩
  | fn h1 h2 h => exact ⟨_, _, rfl, .fn h1 h2 .nil, h⟩
  | agg h0 h1 h => exact ⟨_, _, rfl, .agg h0 h1 .nil, h⟩
  | tup h0 h => exact ⟨_, _, rfl, .tup h0 .nil, h⟩
theorem CR.tail {v : V} {vs : List V} {x : Value} {cs : List Value} (h : CR c (v :: vs) (x :: cs)) : CR c [v] [x] ∧ CR c vs cs := by
  obtain ⟨y, ys, he, h1, h2⟩ := h.uncons
  injection he with e1 e2
  subst e1 e2
  exact ⟨h1, h2⟩
theorem CR.inv_nil {cs : List Value} (h : CR c [] cs) : cs = [] := by cases h; rfl
theorem CR.append {us vs : List V} {xs ys : List Value} (h : CR c us xs) (k : CR c vs ys) : CR c (us ++ vs) (xs ++ ys) := by
  induction us generalizing xs with
  | nil => rw [h.inv_nil]; exact k
  | cons u us ih =>
    obtain ⟨x, xs, rfl, h1, h2⟩ := h.uncons
    exact h1.cons (ih h2)
theorem CR.split {us vs : List V} {zs : List Value} (h : CR c (us ++ vs) zs) : ∃ xs ys, zs = xs ++ ys ∧ CR c us xs ∧ CR c vs ys := by
  induction us generalizing zs with
  | nil => exact ⟨[], zs, rfl, .nil, h⟩
  | cons u us ih =>
    obtain ⟨x, zs, rfl, h1, h2⟩ := h.uncons
    obtain ⟨xs, ys, rfl, h3, h4⟩ := ih h2
    exact ⟨x :: xs, ys, rfl, h1.cons h3, h4⟩
theorem CR.take {vs : List V} {cs : List Value} (h : CR c vs cs) (n : Nat) : CR c (vs.take n) (cs.take n) := by
  induction n generalizing vs cs with
  | zero => exact .nil
  | succ n ih =>
    cases vs with
    | nil => rw [h.inv_nil]; exact .nil
    | cons v vs => obtain ⟨x, xs, rfl, h1, h2⟩ := h.uncons; exact h1.cons (ih h2)
theorem CR.drop {vs : List V} {cs : List Value} (h : CR c vs cs) (n : Nat) : CR c (vs.drop n) (cs.drop n) := by
  induction n generalizing vs cs with
  | zero => exact h
  | succ n ih =>
    cases vs with
    | nil => rw [h.inv_nil]; exact .nil
    | cons v vs => obtain ⟨x, xs, rfl, h1, h2⟩ := h.uncons; exact ih h2
theorem CR.get {vs : List V} {cs : List Value} (h : CR c vs cs) {i : Nat} {v : V} (hv : vs[i]? = some v) : ∃ x, cs[i]? = some x ∧ CR c [v] [x] := by
  induction i generalizing vs cs with
  | zero =>
    cases vs with
    | nil => cases hv
    | cons u vs =>
      obtain ⟨x, xs, rfl, h1, h2⟩ := h.uncons
      obtain rfl : u = v := by simpa using hv
      exact ⟨x, rfl, h1⟩
  | succ i ih =>
    cases vs with
    | nil => cases hv
    | cons u vs =>
      obtain ⟨x, xs, rfl, h1, h2⟩ := h.uncons
      obtain ⟨y, hy, h3⟩ := ih h2 (by simpa using hv)
      exact ⟨y, by simpa using hy, h3⟩
theorem CR.set {vs : List V} {cs : List Value} (h : CR c vs cs) (i : Nat) {v : V} {x : Value} (hv : CR c [v] [x]) : CR c (vs.set i v) (cs.set i x) := by
  induction i generalizing vs cs with
  | zero =>
    cases vs with
    | nil => rw [h.inv_nil]; exact .nil
    | cons u vs => obtain ⟨y, ys, rfl, h1, h2⟩ := h.uncons; exact hv.cons h2
  | succ i ih =>
    cases vs with
    | nil => rw [h.inv_nil]; exact .nil
    | cons u vs => obtain ⟨y, ys, rfl, h1, h2⟩ := h.uncons; exact h1.cons (ih h2)
theorem CR.inv_one {v : V} {cs : List Value} (h : CR c [v] cs) : ∃ x, cs = [x] ∧ CR c [v] [x] := by
  obtain ⟨x, xs, rfl, h1, h2⟩ := h.uncons
  rw [h2.inv_nil]
  exact ⟨x, rfl, h1⟩
theorem CR.tops {vs : List V} {cs : List Value} (h : vs.length = cs.length) (hv : ∀ v ∈ vs, v = .top) : CR c vs cs := by
  induction vs generalizing cs with
  | nil => cases cs with | nil => exact .nil | cons => cases h
  | cons v vs ih =>
    cases cs with
    | nil => cases h
    | cons x cs => rw [hv v (by simp)]; exact .top (ih (by simpa using h) (fun u hu => hv u (by simp [hu])))

theorem CR.inv_lit {u x : Value} (h : CR c [.lit u] [x]) : x = u := by cases h; rfl
theorem CR.inv_ptr {id : Pa} {off : Nat} {x : Value} (h : CR c [.ptr id off] [x]) : ∃ b, c.ρ id = some b ∧ x = .pointer (some ⟨b, off, none⟩) := by cases h with | ptr h _ => exact ⟨_, h, rfl⟩
theorem CR.inv_agg {us : List V} {x : Value} (h : CR c [.agg us] [x]) : ∃ xs, x = .agg xs.toArray ∧ CR c us xs ∧ ∀ u ∈ xs, u.oneCell' = true := by cases h with | agg h h1 _ => exact ⟨_, rfl, h, h1⟩
theorem CR.inv_tup {us : List V} {x : Value} (h : CR c [.tup us] [x]) : ∃ xs, x = .tuple xs.toArray ∧ CR c us xs := by cases h with | tup h _ => exact ⟨_, rfl, h⟩
theorem CR.inv_fn {f : Fn} {a b : List V} {x : Value} (h : CR c [.fn f a b] [x]) : ∃ xs ys, x = .func f xs.toArray ys.toArray ∧ CR c a xs ∧ CR c b ys := by cases h with | fn h k _ => exact ⟨_, _, rfl, h, k⟩
theorem CR.inv_list {o : Own} {rows : List (List V)} {x : Value} (h : CR c [.list o rows] [x]) : ∃ a cap es sz, x = .slice a rows.length cap ∧ CR c rows.flatten es ∧ (∀ r ∈ rows, r.length = sz) ∧ 0 < sz ∧ rows.length ≤ cap ∧ cap ≤ maxLen ∧
    (0 < rows.length → ∃ b off, a = some ⟨b, off, none⟩) ∧ Lies c.G a es ∧ (∀ u ∈ es, u.oneCell' = true) ∧ OwnOk c o rows.length sz a cap := by
  cases h with | list h0 h1 hz h2 h3 h4 h5 hc h6 _ => exact ⟨_, _, _, _, rfl, h0, h1, hz, h2, h3, h4, h5, hc, h6⟩
theorem CR.inv_eptr {rows : List (List V)} {i off : Nat} {x : Value} (h : CR c [.eptr rows i off] [x]) : ∃ b o sz es, x = .pointer (some ⟨b, o + i * sz + off, none⟩) ∧ CR c rows.flatten es ∧ (∀ r ∈ rows, r.length = sz) ∧ (∀ j u, es[j]? = some u → c.G b (o + j) = some u) ∧ ∀ u ∈ es, u.oneCell' = true := by
  cases h with | eptr h0 h1 h2 h3 _ => exact ⟨_, _, _, _, rfl, h0, h1, h2, h3⟩
theorem CR.inv_arr {id : Pa} {off len cap : Nat} {x : Value} (h : CR c [.arr id off len cap] [x]) : ∃ b, c.ρ id = some b ∧ x = .slice (some ⟨b, off, none⟩) len cap ∧ len ≤ cap ∧ cap ≤ maxLen := by cases h with | arr h h1 h2 _ => exact ⟨_, h, rfl, h1, h2⟩

/-- the cells of a row -/
theorem flatten_at {rows : List (List V)} {sz : Nat} (hs : ∀ r ∈ rows, r.length = sz) {i : Nat} {r : List V} (hr : rows[i]? = some r) : rows.flatten.length = rows.length * sz ∧ (rows.flatten.drop (i * sz)).take sz = r := by
  induction rows generalizing i with
  | nil => cases hr
  | cons q rows ih =>
    have hq : q.length = sz := hs q (by simp)
    have hall : ∀ r ∈ rows, r.length = sz := fun r hr => hs r (by simp [hr])
    have hlen : rows.flatten.length = rows.length * sz := by
      clear ih hr hs
      induction rows with
      | nil => simp
      | cons p rows ih2 => simp [hall p (by simp), ih2 (fun r hr => hall r (by simp [hr])), Nat.succ_mul]; omega
    refine ⟨by simp [hlen, hq, Nat.succ_mul]; omega, ?_⟩
    cases i with
    | zero =>
      obtain rfl : q = r := by simpa using hr
      simp [← hq]
    | succ i =>
      have := (ih hall (by simpa using hr)).2
      rw [List.flatten_cons, Nat.succ_mul, List.drop_append, List.drop_of_length_le (by omega), List.nil_append, hq, show i * sz + sz - sz = i * sz by omega]
      exact this
theorem flatten_len {rows : List (List V)} {sz : Nat} (hs : ∀ r ∈ rows, r.length = sz) : rows.flatten.length = rows.length * sz := by
  induction rows with
  | nil => simp
  | cons p rows ih => simp [hs p (by simp), ih (fun r hr => hs r (by simp [hr])), Nat.succ_mul]; omega
end
end Go.Proofs.YtolhahlnccekcaaDoor.Abs
