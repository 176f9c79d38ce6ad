/-
  Own helper theorems of no one function: blocks known whole, a growing book of cells that are never written again (G), data with depth (Dat) and how it lies in the book (Reps).
-/
import Derived.WalkKit
import Derived.WalkSpells
import Derived.WalkLawsBesides
import Derived.OpenShut
import Derived.Maps.AppendAt
import Derived.Deep.RegionWith
import Derived.Deep.RegionLaw
import Derived.Deep.AppendLies
import Derived.Lib.AppendStr
namespace Go.Proofs.YtolhahlnccekcaaDoor
open Go.RowKit

theorem hid {p : Prop} (h : p) : Hid p := h

/-- block g is just the cells cs -/
def Blk (w : World) (g : Nat) (t : TypeId) (cs : Array Value) : Prop := w.heap[g]? = some (.cells cs t (0, 0))

section
variable {w w' : World} {g : Nat} {t : TypeId} {cs : Array Value}
theorem Blk.lt (h : Blk w g t cs) : g < w.heap.size := by
  rcases Nat.lt_or_ge g w.heap.size with hlt | hge
  · exact hlt
  · unfold Blk at h; rw [Array.getElem?_eq_none hge] at h; cases h
theorem Blk.cell (h : Blk w g t cs) (i : Nat) : w.cell? ⟨g, i, none⟩ = cs[i]? := by unfold Blk at h; simp [World.cell?, h]
theorem Blk.frozen (h : Blk w g t cs) (i : Nat) : w.frozen? ⟨g, i, none⟩ = false := by unfold Blk at h; simp [World.frozen?, h]
theorem Blk.new (w : World) (t : TypeId) (cs : Array Value) : Blk (w.alloc (.cells cs t)) w.heap.size t cs := heap_alloc_new w _
theorem Blk.alloc (h : Blk w g t cs) (o : Obj) : Blk (w.alloc o) g t cs := (Below.heap_alloc w o g h.lt).trans h
theorem Blk.set_ (h : Blk w g t cs) (i : Nat) (u : Value) : Blk (w.setCell ⟨g, i, none⟩ u) g t (cs.setIfInBounds i u) := by
  unfold Blk at h ⊢
  simp [World.setCell, Array.getElem?_modify, h]
theorem Blk.grown {row : Option Nat} (h : Blk w g t cs) (hb : w.grownBy w' row) (hg : some g ≠ row) : Blk w' g t cs := (hb.block g h.lt hg).trans h
end

/-! ### w' is w but for one block and new ones -/
theorem grefl (w : World) (r : Option Nat) : w.grownBy w r := ⟨rfl, rfl, rfl, Nat.le_refl _, fun _ _ _ => rfl⟩
theorem gdrew {a w : World} {r : Option Nat} (h : a.grownBy w r) : a.grownBy w.drew r := ⟨h.os, h.tape, h.output, h.size, h.block⟩
theorem galloc {a w : World} {r : Option Nat} (h : a.grownBy w r) (o : Obj) : a.grownBy (w.alloc o) r :=
  ⟨h.os, h.tape, h.output, Nat.le_trans h.size (by simp), fun i hi hne => (Below.heap_alloc w o i (Nat.lt_of_lt_of_le hi h.size)).trans (h.block i hi hne)⟩
theorem gset {a w : World} {r : Option Nat} (h : a.grownBy w r) (g i : Nat) (u : Value) (hg : some g = r ∨ a.heap.size ≤ g) : a.grownBy (w.setCell ⟨g, i, none⟩ u) r :=
  ⟨h.os, h.tape, h.output, by simpa [World.setCell] using h.size, fun k hk hne => (Below.heap_setCell w ⟨g, i, none⟩ u k (by
    intro e
    have e' : k = g := e
    subst e'
    rcases hg with hg | hg
    · exact hne hg
    · omega)).trans (h.block k hk hne)⟩
/-! ### the book -/
abbrev GG := Nat → Nat → Option Value
def Com (w : World) (G : GG) : Prop := ∀ b o v, G b o = some v → w.cell? ⟨b, o, none⟩ = some v
/-- nothing of block b is in the book -/
def Out (G : GG) (b : Nat) : Prop := ∀ o, G b o = none
/-- the book grows, at blocks from B on -/
structure Ext (B : Nat) (G G' : GG) : Prop where
  le : ∀ b o v, G b o = some v → G' b o = some v
  same : ∀ b, b < B → ∀ o, G' b o = G b o

theorem Ext.refl (B : Nat) (G : GG) : Ext B G G := ⟨fun _ _ _ h => h, fun _ _ _ => rfl⟩
theorem Ext.trans {B B' : Nat} {G G1 G2 : GG} (h : Ext B G G1) (k : Ext B' G1 G2) (hB : B ≤ B') : Ext B G G2 :=
  ⟨fun b o v hv => k.le b o v (h.le b o v hv), fun b hb o => (k.same b (Nat.lt_of_lt_of_le hb hB) o).trans (h.same b hb o)⟩
theorem Com.grown {w w' : World} {G : GG} {row : Option Nat} (h : Com w G) (hg : w.grownBy w' row) (hn : ∀ r, row = some r → Out G r) : Com w' G := by
  intro b o v hv
  refine hg.cell (h b o v hv) ?_
  intro e
  have := hn b e.symm o
  rw [this] at hv; cases hv
theorem Com.lt {w : World} {G : GG} (h : Com w G) {b o : Nat} {v : Value} (hv : G b o = some v) : b < w.heap.size := World.block_lt_of_cell? w ⟨b, o, none⟩ (h b o v hv)
theorem Com.out {w : World} {G : GG} (h : Com w G) {b : Nat} (hb : w.heap.size ≤ b) : Out G b := by
  intro o
  cases hv : G b o with
  | none => rfl
  | some v => have := h.lt hv; omega
theorem only_one {G : GG} {rb : Nat} (hn : Out G rb) : ∀ r, some rb = some r → Out G r := by
  intro r hr
  injection hr with hr
  subst hr
  exact hn
theorem only_none {G : GG} : ∀ r, (none : Option Nat) = some r → Out G r := by
  intro r hr
  cases hr
theorem Com.alloc {w : World} {G : GG} (h : Com w G) (o : Obj) : Com (w.alloc o) G := h.grown (galloc (grefl w none) o) only_none
theorem Com.drew {w : World} {G : GG} (h : Com w G) : Com w.drew G := h
theorem Com.drewN {w : World} {G : GG} (h : Com w G) (n : Nat) : Com (w.drewN n) G := h
theorem Com.set_ {w : World} {G : GG} (h : Com w G) {b : Nat} (ho : Out G b) (i : Nat) (u : Value) : Com (w.setCell ⟨b, i, none⟩ u) G :=
  h.grown (gset (grefl w (some b)) b i u (.inl rfl)) (only_one ho)

/-- block b's first cells are laid in the book -/
def lay (G : GG) (b : Nat) (cs : List Value) : GG := fun b' o => if b' = b then cs[o]? else G b' o
theorem lay_ext {G : GG} {b B : Nat} {cs : List Value} (ho : Out G b) (hB : B ≤ b) : Ext B G (lay G b cs) := by
  refine ⟨fun b' o v hv => ?_, fun b' hb o => ?_⟩
  · unfold lay
    split
    · rename_i e; subst e; rw [ho o] at hv; cases hv
    · exact hv
  · unfold lay; rw [if_neg (by omega)]
theorem lay_at {G : GG} {b : Nat} {cs : List Value} (i : Nat) : lay G b cs b i = cs[i]? := by simp [lay]
theorem lay_out {G : GG} {b b' : Nat} {cs : List Value} (ho : Out G b') (hne : b' ≠ b) : Out (lay G b cs) b' := by
  intro o; unfold lay; rw [if_neg hne]; exact ho o
theorem lay_com {w : World} {G : GG} {b : Nat} {cs : List Value} (h : Com w G) (hc : ∀ i u, cs[i]? = some u → w.cell? ⟨b, i, none⟩ = some u) : Com w (lay G b cs) := by
  intro b' o v hv
  unfold lay at hv
  split at hv
  · rename_i e; subst e; exact hc o v hv
  · exact h _ _ _ hv
/-! ### data with depth -/
inductive Dat where
  | int (k : IntKind) (n : Int)
  | bool (b : Bool)
  | str (s : ByteArray)
  | node (fs : List Dat)
  | list (es : List Dat)

inductive Reps (G : GG) : List Dat → List Value → Prop where
  | nil : Reps G [] []
  | int {k n ds cs} : (Lit.int k n).wf = true → Reps G ds cs → Reps G (.int k n :: ds) (.int k n :: cs)
  | bool {b ds cs} : Reps G ds cs → Reps G (.bool b :: ds) (.bool b :: cs)
  | str {s ds cs} : Reps G ds cs → Reps G (.str s :: ds) (.string s :: cs)
  | node {fs ds cs1 cs} : Reps G fs cs1 → Reps G ds cs → Reps G (.node fs :: ds) (cs1 ++ cs)
  | list {es ds cs1 cs a cap} : Reps G es cs1 → es.length ≤ cap → cap ≤ maxLen → (0 < es.length → ∃ b off, a = some ⟨b, off, none⟩ ∧ ∀ i u, cs1[i]? = some u → G b (off + i) = some u) → Reps G ds cs →
      Reps G (.list es :: ds) (.slice a es.length cap :: cs)

theorem Reps.mono {G G' : GG} (hle : ∀ b o v, G b o = some v → G' b o = some v) {ds : List Dat} {cs : List Value} (h : Reps G ds cs) : Reps G' ds cs := by
  induction h with
  | nil => exact .nil
  | int hw _ ih => exact .int hw ih
  | bool _ ih => exact .bool ih
  | str _ ih => exact .str ih
  | node _ _ ih1 ih2 => exact .node ih1 ih2
  | list _ hc hm ha _ ih1 ih2 =>
    refine .list ih1 hc hm (fun hl => ?_) ih2
    obtain ⟨b, off, e, h⟩ := ha hl
    exact ⟨b, off, e, fun i u hu => hle _ _ _ (h i u hu)⟩
theorem Reps.append {G : GG} {ds es : List Dat} {cs xs : List Value} (h : Reps G ds cs) (k : Reps G es xs) : Reps G (ds ++ es) (cs ++ xs) := by
  induction h with
  | nil => exact k
  | int hw _ ih => exact .int hw ih
  | bool _ ih => exact .bool ih
  | str _ ih => exact .str ih
  | node h1 _ _ ih2 => rw [List.append_assoc]; exact .node h1 ih2
  | list h1 hc hm ha _ _ ih2 => exact .list h1 hc hm ha ih2

/-- how a slice reads -/
def SliceIs (G : GG) (es : List Dat) (a : Option Addr) (len cap : Nat) : Prop :=
  len = es.length ∧ len ≤ cap ∧ cap ≤ maxLen ∧ ∃ cs, Reps G es cs ∧ (0 < len → ∃ b off, a = some ⟨b, off, none⟩ ∧ ∀ i u, cs[i]? = some u → G b (off + i) = some u)

theorem Reps.inv_nil {G : GG} {cs : List Value} (h : Reps G [] cs) : cs = [] := by cases h; rfl
theorem Reps.inv_int {G : GG} {k n ds cs} (h : Reps G (.int k n :: ds) cs) : ∃ xs, cs = .int k n :: xs ∧ (Lit.int k n).wf = true ∧ Reps G ds xs := by cases h with | int hw h => exact ⟨_, rfl, hw, h⟩
/-- how many cells -/
inductive Wide : Dat → Nat → Prop where
  | int {k n} : Wide (.int k n) 1
  | bool {b} : Wide (.bool b) 1
  | str {s} : Wide (.str s) 1
  | list {es} : Wide (.list es) 1
  | node0 : Wide (.node []) 0
  | node {f fs m n} : Wide f m → Wide (.node fs) n → Wide (.node (f :: fs)) (m + n)

/-! ### the walk's state: w0, G0: as it began; r: the block that came in and may be written; w, G: now. A contract: 'St G w r G w' ahead of the call, 'St G w r G' w'' behind it. -/
structure St (G0 : GG) (w0 : World) (r : Option Nat) (G : GG) (w : World) : Prop where
  ext : Ext w0.heap.size G0 G
  com : Com w G
  gr : w0.grownBy w r
  out : ∀ g, r = some g → Out G g ∧ g < w0.heap.size

/-- a block of the walk's own -/
structure Ob (B : Nat) (G : GG) (w : World) (b : Nat) (t : TypeId) (cs : Array Value) : Prop where
  new : B ≤ b
  blk : Blk w b t cs
  out : Out G b

section
variable {B : Nat} {G G' : GG} {w w' : World} {b : Nat} {t : TypeId} {cs : Array Value}
end

/-- a row of the walk's own, that still grows: its elements so far -/
structure Row (B : Nat) (G : GG) (w : World) (e : TypeId) (size : Nat) (v : Value) (es : List Dat) : Prop where
  ex : ∃ cs, w.ownsRow B e size v es.length cs ∧ Reps G es cs
  out : ∀ g, v.ownBlock = some g → Out G g

section
variable {B : Nat} {G G' : GG} {w w' : World} {e : TypeId} {size : Nat} {v : Value} {es : List Dat}
theorem Row.nil (G : GG) (w : World) (B : Nat) (e : TypeId) (size : Nat) : Row B G w e size (.slice none 0 0) [] := ⟨⟨[], World.ownsRow_nil w B e size, .nil⟩, fun g h => by cases h⟩
theorem Row.lt (h : Row B G w e size v es) {g : Nat} (hg : v.ownBlock = some g) : B ≤ g ∧ g < w.heap.size := by obtain ⟨⟨cs, h1, _⟩, _⟩ := h; exact h1.lt g hg
theorem Row.form (h : Row B G w e size v es) : ∃ a cap, v = .slice a es.length cap := by
  obtain ⟨⟨cs, h1, _⟩, _⟩ := h
  rcases h1.2 with ⟨rfl, h0⟩ | ⟨g, cap, cur, rfl, _⟩
  · exact ⟨none, 0, by rw [h0]⟩
  · exact ⟨_, _, rfl⟩
theorem Row.step {s : Option Nat} (h : Row B G w e size v es) (hg : w.grownBy w' s) (hs : ∀ g, s = some g → v.ownBlock ≠ some g) : Row B G w' e size v es := by
  obtain ⟨⟨cs, h1, h2⟩, h3⟩ := h
  refine ⟨⟨cs, h1.kept hg ?_, h2⟩, h3⟩
  cases hv : v.ownBlock with
  | none => exact .inl rfl
  | some g => exact .inr (fun e => hs g e.symm hv)
theorem Row.set_ (h : Row B G w e size v es) {b : Nat} (hb : v.ownBlock ≠ some b) (i : Nat) (u : Value) : Row B G (w.setCell ⟨b, i, none⟩ u) e size v es :=
  h.step (gset (grefl w (some b)) b i u (.inl rfl)) (fun g hg => by injection hg with hg; subst hg; exact hb)
end

/-! ### append onto a row of the walk's own -/
/-- where the appended cells lie -/
def Src (w : World) (x : Value) (m : Nat) (news : List Value) : Prop := ∃ A c, x = .slice A m c ∧ (0 < m → ∃ ad : Addr, A = some ad ∧ ∀ j u, news[j]? = some u → w.cell? (ad.add j) = some u)

theorem addr_add (b o j : Nat) : (⟨b, o, none⟩ : Addr).add j = ⟨b, o + j, none⟩ := by unfold Addr.add; split <;> simp_all
section
variable {P : Program} (w : World)

end

/-! ### append of a string's bytes -/
open Go.Lib in
theorem run_append_str_row {P : Program} (w : World) {B : Nat} {G : GG} {v : Value} {es : List Dat} (t u ty e : TypeId) (i : TypeInfo) (ht : P.underlying t = some (.slice e)) (hu : P.underlying u = some .string) (hi : P.info? e = some i) (hz : i.zero = some (.int .u8 0))
    (hsize : i.size = 1) (hby : i.bytes = 1) (hrow : Row B G w e 1 v es) (hC : Com w G) (s : ByteArray) (h47 : es.length + s.size ≤ 70368744177664) (hB : B ≤ w.heap.size) :
    ∃ v' w', (Builtin.append_ #[t, u] ty #[v, .string s]).run P w = .ok v' w' ∧ Row B G w' e 1 v' (es ++ (s.data.toList.map fun c => Dat.int .u8 c.toNat)) ∧ w.grownBy w' v.ownBlock ∧ (v'.ownBlock = v.ownBlock ∨ v'.ownBlock = some w.heap.size) := by
  have hlen : (es ++ (s.data.toList.map fun c => Dat.int .u8 c.toNat)).length = es.length + s.size := by simp
  have hreps : Reps G (s.data.toList.map fun c => Dat.int .u8 c.toNat) (strCells s) := by
    have hg : ∀ l : List UInt8, Reps G (l.map fun c => Dat.int .u8 c.toNat) (l.map fun c => Value.int .u8 c.toNat) := by
      intro l
      induction l with
      | nil => exact .nil
      | cons c l ih => exact .int (WalkArith.wf_u8 (by have := c.toNat_lt; omega)) ih
    exact hg _
  obtain ⟨⟨xs, hown, hxs⟩, hout⟩ := hrow
  have key : ∃ v' w', (Builtin.append_ #[t, u] ty #[v, .string s]).run P w = .ok v' w' ∧ w'.ownsRow B e 1 v' (es.length + s.size) (xs ++ strCells s) ∧ w.grownBy w' v.ownBlock ∧ (v'.ownBlock = v.ownBlock ∨ v'.ownBlock = some w.heap.size) := by
    obtain ⟨v', w', hrun, h1, h2, h3⟩ := run_append_own_string (P := P) w B t u ty e i ht hu hi hz hsize hby v es.length xs hown s (by simp only [maxLen]; omega) (by omega) hB
    refine ⟨v', w', hrun, h1, h2, ?_⟩
    have hn1 : xs.length = es.length := by simpa using hown.1
    rcases hown.2 with ⟨rfl, h0⟩ | ⟨g, cap, cur, rfl, hbg, hg, hnc, hcm, hcs, htake⟩
    · rcases Nat.eq_zero_or_pos s.size with hs | hs
      · rw [h3.2 ⟨rfl, hs⟩]; exact .inl rfl
      · have hr := run_append_nil_string (P := P) w t u ty e i (.int .u8 0) ht hu hi hz s (by omega) (by omega) (by rw [hby]; omega)
        rw [hr] at hrun
        injection hrun with e1 e2
        rw [← e1]; exact .inr rfl
    · by_cases hroom : es.length + s.size ≤ cap
      · have hr := run_append_room_string (P := P) w t u ty e i ht hu hi hsize g es.length cap cur hg s hroom (by rw [hcs]; omega)
        rw [hr] at hrun
        injection hrun with e1 e2
        rw [← e1]; exact .inl rfl
      · have holds : ∀ j u, xs[j]? = some u → w.cell? ((⟨g, 0, none⟩ : Addr).add j) = some u := hown.cells (g := g) rfl
        have hr := run_append_grow_string (P := P) w t u ty e i (.int .u8 0) ht hu hi hz ⟨g, 0, none⟩ es.length cap xs (by rw [hsize]; simpa using hn1) holds s (by omega) (by omega) (by rw [hby]; exact growslice_fits (by omega) (by omega))
        rw [hr] at hrun
        injection hrun with e1 e2
        rw [← e1]; exact .inr rfl
  obtain ⟨v', w', hrun, h1, h2, h3⟩ := key
  refine ⟨v', w', hrun, ⟨⟨xs ++ strCells s, by rw [hlen]; exact h1, hxs.append hreps⟩, fun g hg => ?_⟩, h2, h3⟩
  rcases h3 with h3 | h3
  · exact hout g (by rw [← h3]; exact hg)
  · rw [h3] at hg
    injection hg with hg
    subst hg
    exact hC.out (Nat.le_refl _)
/-! ### a struct result in its variable -/
/-! ### loads and stores of several cells at once, in a block that is known whole -/
section
variable {P : Program}
end

/-! ### two blocks of the walk's own: the variable 'tb' and the result's place 'sb'; 'rb' is the block that came in -/
structure Two (G0 : GG) (w0 : World) (rb tb sb T : Nat) (z : Array Value) (G : GG) (w : World) (cs : Array Value) : Prop where
  st : St G0 w0 (some rb) G w
  t : Ob w0.heap.size G w tb T cs
  o : Ob w0.heap.size G w sb T z
  ne : tb ≠ sb
section
variable {G0 : GG} {w0 : World} {rb tb sb T : Nat} {z : Array Value} {G G' : GG} {w w' : World} {cs : Array Value}
end

/-! ### a block 'wb' that came in and holds a row that grows, in block 'row': both may be written, and what is new -/
structure WFr (wb : Nat) (row : Option Nat) (w w' : World) : Prop where
  os : w'.os = w.os
  tape : w'.tape = w.tape
  output : w'.output = w.output
  size : w.heap.size ≤ w'.heap.size
  block : ∀ k, k < w.heap.size → k ≠ wb → some k ≠ row → w'.heap[k]? = w.heap[k]?
section
variable {wb : Nat} {row row1 : Option Nat} {w w1 w2 w' : World} {G : GG}
end
end Go.Proofs.YtolhahlnccekcaaDoor
