/-
  Own helper theorems of no one function: blocks known whole, a growing book of cells that are never written again (G), data with depth (Dat) and how it lies in the book (Reps).
-/
import Derived.WalkKit
import Derived.WalkSpells
import Derived.WalkLawsBesides
import Derived.OpenShut
import Derived.Maps.AppendAt
import Derived.Deep.RegionWith
import Derived.Deep.RegionLaw
import Derived.Deep.AppendLies
import Derived.Lib.AppendStr
namespace Go.Proofs.YtolhahlnccekcaaDoor
open Go.RowKit

theorem hid {p : Prop} (h : p) : Hid p := h

/-- block g is just the cells cs -/
def Blk (w : World) (g : Nat) (t : TypeId) (cs : Array Value) : Prop := w.heap[g]? = some (.cells cs t (0, 0))

section
variable {w w' : World} {g : Nat} {t : TypeId} {cs : Array Value}
theorem Blk.lt (h : Blk w g t cs) : g < w.heap.size := by
  rcases Nat.lt_or_ge g w.heap.size with hlt | hge
  · exact hlt
  · unfold Blk at h; rw [Array.getElem?_eq_none hge] at h; cases h
theorem Blk.cell (h : Blk w g t cs) (i : Nat) : w.cell? ⟨g, i, none⟩ = cs[i]? := by unfold Blk at h; simp [World.cell?, h]
theorem Blk.frozen (h : Blk w g t cs) (i : Nat) : w.frozen? ⟨g, i, none⟩ = false := by unfold Blk at h; simp [World.frozen?, h]
theorem Blk.new (w : World) (t : TypeId) (cs : Array Value) : Blk (w.alloc (.cells cs t)) w.heap.size t cs := heap_alloc_new w _
theorem Blk.drew (h : Blk w g t cs) : Blk w.drew g t cs := h
theorem Blk.alloc (h : Blk w g t cs) (o : Obj) : Blk (w.alloc o) g t cs := (Below.heap_alloc w o g h.lt).trans h
theorem Blk.set_ (h : Blk w g t cs) (i : Nat) (u : Value) : Blk (w.setCell ⟨g, i, none⟩ u) g t (cs.setIfInBounds i u) := by
  unfold Blk at h ⊢
  simp [World.setCell, Array.getElem?_modify, h]
theorem Blk.far (h : Blk w g t cs) {p : Addr} (hp : g ≠ p.block) (u : Value) : Blk (w.setCell p u) g t cs := (Below.heap_setCell w p u g hp).trans h
theorem Blk.below {B : Nat} (h : Blk w g t cs) (hb : Below B w w') (hg : g < B) : Blk w' g t cs := (hb.block g hg).trans h
theorem Blk.grown {row : Option Nat} (h : Blk w g t cs) (hb : w.grownBy w' row) (hg : some g ≠ row) : Blk w' g t cs := (hb.block g h.lt hg).trans h
theorem Blk.ne_ {g' : Nat} {t' : TypeId} {cs' : Array Value} (h : Blk w g t cs) (h' : Blk w g' t' cs') (hne : t ≠ t') : g ≠ g' := by
  rintro rfl
  unfold Blk at h h'
  rw [h] at h'
  injection h' with h'
  injection h' with _ ht
  exact hne ht
end

/-! ### w' is w but for one block and new ones -/
theorem grefl (w : World) (r : Option Nat) : w.grownBy w r := ⟨rfl, rfl, rfl, Nat.le_refl _, fun _ _ _ => rfl⟩
theorem gtrans {a b c : World} {r : Option Nat} (h : a.grownBy b r) (k : b.grownBy c r) : a.grownBy c r :=
  ⟨k.os.trans h.os, k.tape.trans h.tape, k.output.trans h.output, Nat.le_trans h.size k.size, fun i hi hn => (k.block i (Nat.lt_of_lt_of_le hi h.size) hn).trans (h.block i hi hn)⟩
/-- what is written behind the beginning counts as new -/
theorem gtrans_new {a b c : World} {r s : Option Nat} (h : a.grownBy b r) (k : b.grownBy c s) (hs : ∀ g, s = some g → a.heap.size ≤ g) : a.grownBy c r :=
  ⟨k.os.trans h.os, k.tape.trans h.tape, k.output.trans h.output, Nat.le_trans h.size k.size, fun i hi hn => (k.block i (Nat.lt_of_lt_of_le hi h.size) (fun e => by have := hs i e.symm; omega)).trans (h.block i hi hn)⟩
theorem gdrew {a w : World} {r : Option Nat} (h : a.grownBy w r) : a.grownBy w.drew r := ⟨h.os, h.tape, h.output, h.size, h.block⟩
theorem gdrewN {a w : World} {r : Option Nat} (h : a.grownBy w r) (n : Nat) : a.grownBy (w.drewN n) r := ⟨h.os, h.tape, h.output, h.size, h.block⟩
theorem galloc {a w : World} {r : Option Nat} (h : a.grownBy w r) (o : Obj) : a.grownBy (w.alloc o) r :=
  ⟨h.os, h.tape, h.output, Nat.le_trans h.size (by simp), fun i hi hne => (Below.heap_alloc w o i (Nat.lt_of_lt_of_le hi h.size)).trans (h.block i hi hne)⟩
theorem gset {a w : World} {r : Option Nat} (h : a.grownBy w r) (g i : Nat) (u : Value) (hg : some g = r ∨ a.heap.size ≤ g) : a.grownBy (w.setCell ⟨g, i, none⟩ u) r :=
  ⟨h.os, h.tape, h.output, by simpa [World.setCell] using h.size, fun k hk hne => (Below.heap_setCell w ⟨g, i, none⟩ u k (by
    intro e
    have e' : k = g := e
    subst e'
    rcases hg with hg | hg
    · exact hne hg
    · omega)).trans (h.block k hk hne)⟩
theorem gbelow {w w' : World} (h : w.grownBy w' none) : Below w.heap.size w w' := ⟨h.os, h.tape, h.output, h.size, fun k hk => h.block k hk (by simp)⟩
theorem gof_below {w w' : World} (h : Below w.heap.size w w') (r : Option Nat) : w.grownBy w' r := ⟨h.os, h.tape, h.output, h.size, fun i hi _ => h.block i hi⟩
theorem gsize_set (w : World) (p : Addr) (u : Value) : (w.setCell p u).heap.size = w.heap.size := by simp [World.setCell]

/-! ### the book -/
abbrev GG := Nat → Nat → Option Value
def Com (w : World) (G : GG) : Prop := ∀ b o v, G b o = some v → w.cell? ⟨b, o, none⟩ = some v
/-- nothing of block b is in the book -/
def Out (G : GG) (b : Nat) : Prop := ∀ o, G b o = none
/-- the book grows, at blocks from B on -/
structure Ext (B : Nat) (G G' : GG) : Prop where
  le : ∀ b o v, G b o = some v → G' b o = some v
  same : ∀ b, b < B → ∀ o, G' b o = G b o

theorem Ext.refl (B : Nat) (G : GG) : Ext B G G := ⟨fun _ _ _ h => h, fun _ _ _ => rfl⟩
theorem Ext.trans {B B' : Nat} {G G1 G2 : GG} (h : Ext B G G1) (k : Ext B' G1 G2) (hB : B ≤ B') : Ext B G G2 :=
  ⟨fun b o v hv => k.le b o v (h.le b o v hv), fun b hb o => (k.same b (Nat.lt_of_lt_of_le hb hB) o).trans (h.same b hb o)⟩
theorem Ext.out {B : Nat} {G G' : GG} (h : Ext B G G') {b : Nat} (ho : Out G b) (hb : b < B) : Out G' b := fun o => (h.same b hb o).trans (ho o)
theorem Com.grown {w w' : World} {G : GG} {row : Option Nat} (h : Com w G) (hg : w.grownBy w' row) (hn : ∀ r, row = some r → Out G r) : Com w' G := by
  intro b o v hv
  refine hg.cell (h b o v hv) ?_
  intro e
  have := hn b e.symm o
  rw [this] at hv; cases hv
theorem Com.lt {w : World} {G : GG} (h : Com w G) {b o : Nat} {v : Value} (hv : G b o = some v) : b < w.heap.size := World.block_lt_of_cell? w ⟨b, o, none⟩ (h b o v hv)
theorem Com.out {w : World} {G : GG} (h : Com w G) {b : Nat} (hb : w.heap.size ≤ b) : Out G b := by
  intro o
  cases hv : G b o with
  | none => rfl
  | some v => have := h.lt hv; omega
theorem only_one {G : GG} {rb : Nat} (hn : Out G rb) : ∀ r, some rb = some r → Out G r := by
  intro r hr
  injection hr with hr
  subst hr
  exact hn
theorem only_none {G : GG} : ∀ r, (none : Option Nat) = some r → Out G r := by
  intro r hr
  cases hr
theorem Com.alloc {w : World} {G : GG} (h : Com w G) (o : Obj) : Com (w.alloc o) G := h.grown (galloc (grefl w none) o) only_none
theorem Com.drew {w : World} {G : GG} (h : Com w G) : Com w.drew G := h
theorem Com.drewN {w : World} {G : GG} (h : Com w G) (n : Nat) : Com (w.drewN n) G := h
theorem Com.set_ {w : World} {G : GG} (h : Com w G) {b : Nat} (ho : Out G b) (i : Nat) (u : Value) : Com (w.setCell ⟨b, i, none⟩ u) G :=
  h.grown (gset (grefl w (some b)) b i u (.inl rfl)) (only_one ho)

/-- block b's first cells are laid in the book -/
def lay (G : GG) (b : Nat) (cs : List Value) : GG := fun b' o => if b' = b then cs[o]? else G b' o
theorem lay_ext {G : GG} {b B : Nat} {cs : List Value} (ho : Out G b) (hB : B ≤ b) : Ext B G (lay G b cs) := by
  refine ⟨fun b' o v hv => ?_, fun b' hb o => ?_⟩
  · unfold lay
    split
    · rename_i e; subst e; rw [ho o] at hv; cases hv
    · exact hv
  · unfold lay; rw [if_neg (by omega)]
theorem lay_at {G : GG} {b : Nat} {cs : List Value} (i : Nat) : lay G b cs b i = cs[i]? := by simp [lay]
theorem lay_out {G : GG} {b b' : Nat} {cs : List Value} (ho : Out G b') (hne : b' ≠ b) : Out (lay G b cs) b' := by
  intro o; unfold lay; rw [if_neg hne]; exact ho o
theorem lay_com {w : World} {G : GG} {b : Nat} {cs : List Value} (h : Com w G) (hc : ∀ i u, cs[i]? = some u → w.cell? ⟨b, i, none⟩ = some u) : Com w (lay G b cs) := by
  intro b' o v hv
  unfold lay at hv
  split at hv
  · rename_i e; subst e; exact hc o v hv
  · exact h _ _ _ hv
theorem own_cells {w : World} {base : Nat} {e : TypeId} {size n cap : Nat} {g off : Nat} {xs : List Value} (h : w.ownsRow base e size (.slice (some ⟨g, off, none⟩) n cap) n xs) :
    off = 0 ∧ ∀ i u, xs[i]? = some u → w.cell? ⟨g, i, none⟩ = some u := by
  have h0 : off = 0 := by
    rcases h.2 with ⟨h, _⟩ | ⟨g', cap', cur, h, _⟩
    · cases h
    · injection h with h _ _; injection h with h; injection h
  subst h0
  refine ⟨rfl, fun i u hu => ?_⟩
  have := h.cells (g := g) rfl i u hu
  simpa [Addr.add] using (by
    by_cases hi : i = 0
    · subst hi; simpa [Addr.add] using this
    · simpa [Addr.add, hi] using this : w.cell? ⟨g, i, none⟩ = some u)

/-! ### data with depth -/
inductive Dat where
  | int (k : IntKind) (n : Int)
  | bool (b : Bool)
  | str (s : ByteArray)
  | node (fs : List Dat)
  | list (es : List Dat)

inductive Reps (G : GG) : List Dat → List Value → Prop where
  | nil : Reps G [] []
  | int {k n ds cs} : (Lit.int k n).wf = true → Reps G ds cs → Reps G (.int k n :: ds) (.int k n :: cs)
  | bool {b ds cs} : Reps G ds cs → Reps G (.bool b :: ds) (.bool b :: cs)
  | str {s ds cs} : Reps G ds cs → Reps G (.str s :: ds) (.string s :: cs)
  | node {fs ds cs1 cs} : Reps G fs cs1 → Reps G ds cs → Reps G (.node fs :: ds) (cs1 ++ cs)
  | list {es ds cs1 cs a cap} : Reps G es cs1 → es.length ≤ cap → cap ≤ maxLen → (0 < es.length → ∃ b off, a = some ⟨b, off, none⟩ ∧ ∀ i u, cs1[i]? = some u → G b (off + i) = some u) → Reps G ds cs →
      Reps G (.list es :: ds) (.slice a es.length cap :: cs)

theorem Reps.mono {G G' : GG} (hle : ∀ b o v, G b o = some v → G' b o = some v) {ds : List Dat} {cs : List Value} (h : Reps G ds cs) : Reps G' ds cs := by
  induction h with
  | nil => exact .nil
  | int hw _ ih => exact .int hw ih
  | bool _ ih => exact .bool ih
  | str _ ih => exact .str ih
  | node _ _ ih1 ih2 => exact .node ih1 ih2
  | list _ hc hm ha _ ih1 ih2 =>
    refine .list ih1 hc hm (fun hl => ?_) ih2
    obtain ⟨b, off, e, h⟩ := ha hl
    exact ⟨b, off, e, fun i u hu => hle _ _ _ (h i u hu)⟩
theorem Reps.ext {B : Nat} {G G' : GG} (he : Ext B G G') {ds : List Dat} {cs : List Value} (h : Reps G ds cs) : Reps G' ds cs := h.mono he.le
theorem Reps.append {G : GG} {ds es : List Dat} {cs xs : List Value} (h : Reps G ds cs) (k : Reps G es xs) : Reps G (ds ++ es) (cs ++ xs) := by
  induction h with
  | nil => exact k
  | int hw _ ih => exact .int hw ih
  | bool _ ih => exact .bool ih
  | str _ ih => exact .str ih
  | node h1 _ _ ih2 => rw [List.append_assoc]; exact .node h1 ih2
  | list h1 hc hm ha _ _ ih2 => exact .list h1 hc hm ha ih2

/-- how a slice reads -/
def SliceIs (G : GG) (es : List Dat) (a : Option Addr) (len cap : Nat) : Prop :=
  len = es.length ∧ len ≤ cap ∧ cap ≤ maxLen ∧ ∃ cs, Reps G es cs ∧ (0 < len → ∃ b off, a = some ⟨b, off, none⟩ ∧ ∀ i u, cs[i]? = some u → G b (off + i) = some u)

theorem Reps.inv_nil {G : GG} {cs : List Value} (h : Reps G [] cs) : cs = [] := by cases h; rfl
theorem Reps.inv_int {G : GG} {k n ds cs} (h : Reps G (.int k n :: ds) cs) : ∃ xs, cs = .int k n :: xs ∧ (Lit.int k n).wf = true ∧ Reps G ds xs := by cases h with | int hw h => exact ⟨_, rfl, hw, h⟩
theorem Reps.inv_bool {G : GG} {b ds cs} (h : Reps G (.bool b :: ds) cs) : ∃ xs, cs = .bool b :: xs ∧ Reps G ds xs := by cases h with | bool h => exact ⟨_, rfl, h⟩
theorem Reps.inv_str {G : GG} {s ds cs} (h : Reps G (.str s :: ds) cs) : ∃ xs, cs = .string s :: xs ∧ Reps G ds xs := by cases h with | str h => exact ⟨_, rfl, h⟩
theorem Reps.inv_node {G : GG} {fs ds cs} (h : Reps G (.node fs :: ds) cs) : ∃ c1 c2, cs = c1 ++ c2 ∧ Reps G fs c1 ∧ Reps G ds c2 := by cases h with | node h1 h2 => exact ⟨_, _, rfl, h1, h2⟩
theorem Reps.inv_list {G : GG} {es ds cs} (h : Reps G (.list es :: ds) cs) : ∃ a cap xs, cs = .slice a es.length cap :: xs ∧ SliceIs G es a es.length cap ∧ Reps G ds xs := by
  cases h with | list h1 hc hm ha h2 => exact ⟨_, _, _, rfl, ⟨rfl, hc, hm, _, h1, ha⟩, h2⟩
theorem Reps.mk_list {G : GG} {es ds cs a len cap} (h : SliceIs G es a len cap) (k : Reps G ds cs) : Reps G (.list es :: ds) (.slice a len cap :: cs) := by
  obtain ⟨rfl, hc, hm, xs, h1, ha⟩ := h
  exact .list h1 hc hm ha k
theorem Reps.inv_one_node {G : GG} {fs cs} (h : Reps G [.node fs] cs) : Reps G fs cs := by
  obtain ⟨c1, c2, rfl, h1, h2⟩ := h.inv_node
  rw [h2.inv_nil, List.append_nil]
  exact h1
theorem Reps.mk_one_node {G : GG} {fs cs} (h : Reps G fs cs) : Reps G [.node fs] cs := by simpa using Reps.node h .nil

/-- how many cells -/
inductive Wide : Dat → Nat → Prop where
  | int {k n} : Wide (.int k n) 1
  | bool {b} : Wide (.bool b) 1
  | str {s} : Wide (.str s) 1
  | list {es} : Wide (.list es) 1
  | node0 : Wide (.node []) 0
  | node {f fs m n} : Wide f m → Wide (.node fs) n → Wide (.node (f :: fs)) (m + n)

theorem Reps.split {G : GG} {es ds cs} (h : Reps G (es ++ ds) cs) : ∃ c1 c2, cs = c1 ++ c2 ∧ Reps G es c1 ∧ Reps G ds c2 := by
  induction es generalizing cs with
  | nil => exact ⟨[], cs, rfl, .nil, h⟩
  | cons e es ih =>
    cases h with
    | int hw h => obtain ⟨c1, c2, rfl, h1, h2⟩ := ih h; exact ⟨_ :: c1, c2, rfl, .int hw h1, h2⟩
    | bool h => obtain ⟨c1, c2, rfl, h1, h2⟩ := ih h; exact ⟨_ :: c1, c2, rfl, .bool h1, h2⟩
    | str h => obtain ⟨c1, c2, rfl, h1, h2⟩ := ih h; exact ⟨_ :: c1, c2, rfl, .str h1, h2⟩
    | node hn h => obtain ⟨c1, c2, rfl, h1, h2⟩ := ih h; exact ⟨_ ++ c1, c2, (List.append_assoc _ _ _).symm, .node hn h1, h2⟩
    | list hl hc hm ha h => obtain ⟨c1, c2, rfl, h1, h2⟩ := ih h; exact ⟨_ :: c1, c2, rfl, .list hl hc hm ha h1, h2⟩

theorem Wide.cells {d : Dat} {n : Nat} (h : Wide d n) : ∀ {G : GG} {cs}, Reps G [d] cs → cs.length = n := by
  induction h with
  | int => intro G cs h; obtain ⟨xs, rfl, _, h2⟩ := h.inv_int; obtain rfl := h2.inv_nil; rfl
  | bool => intro G cs h; obtain ⟨xs, rfl, h2⟩ := h.inv_bool; obtain rfl := h2.inv_nil; rfl
  | str => intro G cs h; obtain ⟨xs, rfl, h2⟩ := h.inv_str; obtain rfl := h2.inv_nil; rfl
  | list => intro G cs h; obtain ⟨a, cap, xs, rfl, _, h2⟩ := h.inv_list; obtain rfl := h2.inv_nil; rfl
  | node0 => intro G cs h; obtain rfl := h.inv_one_node.inv_nil; rfl
  | @node f fs m n _ _ ih1 ih2 =>
    intro G cs h
    obtain ⟨c1, c2, rfl, h1, h2⟩ := Reps.split (es := [f]) (ds := fs) h.inv_one_node
    rw [List.length_append, ih1 h1, ih2 (Reps.mk_one_node h2)]

theorem Reps.len {G : GG} {n : Nat} {es : List Dat} {cs} (h : Reps G es cs) (hw : ∀ d ∈ es, Wide d n) : cs.length = es.length * n := by
  induction es generalizing cs with
  | nil => rw [h.inv_nil]; simp
  | cons e es ih =>
    obtain ⟨c1, c2, rfl, h1, h2⟩ := Reps.split (es := [e]) (ds := es) h
    rw [List.length_append, (hw e (by simp)).cells h1, ih h2 (fun d hd => hw d (by simp [hd]))]
    simp [Nat.add_mul]; omega

/-- the cells of a list's element -/
theorem Reps.nth {G : GG} {n : Nat} {es : List Dat} {cs} (h : Reps G es cs) (hw : ∀ d ∈ es, Wide d n) {i : Nat} {d : Dat} (hd : es[i]? = some d) :
    ∃ xs, Reps G [d] xs ∧ xs.length = n ∧ ∀ j u, xs[j]? = some u → cs[i * n + j]? = some u := by
  induction es generalizing cs i with
  | nil => simp at hd
  | cons e es ih =>
    obtain ⟨c1, c2, rfl, h1, h2⟩ := Reps.split (es := [e]) (ds := es) h
    have hl : c1.length = n := (hw e (by simp)).cells h1
    cases i with
    | zero =>
      obtain rfl : e = d := by simpa using hd
      refine ⟨c1, h1, hl, fun j u hu => ?_⟩
      have hj : j < c1.length := (List.getElem?_eq_some_iff.1 hu).1
      rw [Nat.zero_mul, Nat.zero_add, List.getElem?_append_left hj]; exact hu
    | succ i =>
      obtain ⟨xs, h3, h4, h5⟩ := ih h2 (fun d hd => hw d (by simp [hd])) (by simpa using hd)
      refine ⟨xs, h3, h4, fun j u hu => ?_⟩
      rw [List.getElem?_append_right (by rw [hl, Nat.succ_mul]; omega), hl, show (i + 1) * n + j - n = i * n + j by rw [Nat.succ_mul]; omega]
      exact h5 j u hu

/-- an element's cells in memory -/
theorem SliceIs.nth {G : GG} {es : List Dat} {a : Option Addr} {len cap n : Nat} (h : SliceIs G es a len cap) (hw : ∀ d ∈ es, Wide d n) {i : Nat} {d : Dat} (hd : es[i]? = some d) :
    ∃ b off xs, a = some ⟨b, off, none⟩ ∧ Reps G [d] xs ∧ xs.length = n ∧ ∀ j u, xs[j]? = some u → G b (off + i * n + j) = some u := by
  obtain ⟨rfl, hc, hm, cs, h1, ha⟩ := h
  have hi : i < es.length := (List.getElem?_eq_some_iff.1 hd).1
  obtain ⟨b, off, rfl, hG⟩ := ha (by omega)
  obtain ⟨xs, h2, h3, h4⟩ := h1.nth hw hd
  exact ⟨b, off, xs, rfl, h2, h3, fun j u hu => by rw [Nat.add_assoc]; exact hG _ u (h4 j u hu)⟩
theorem SliceIs.ext {B : Nat} {G G' : GG} (he : Ext B G G') {es : List Dat} {a : Option Addr} {len cap : Nat} (h : SliceIs G es a len cap) : SliceIs G' es a len cap := by
  obtain ⟨h0, hc, hm, cs, h1, ha⟩ := h
  refine ⟨h0, hc, hm, cs, h1.ext he, fun hl => ?_⟩
  obtain ⟨b, off, e, h⟩ := ha hl
  exact ⟨b, off, e, fun i u hu => he.le _ _ _ (h i u hu)⟩

/-- a row that the call has built is laid in the book -/
theorem own_lay {w : World} {G : GG} {base : Nat} {e : TypeId} {size n : Nat} {v : Value} {xs : List Value} {es : List Dat} (hC : Com w G) (h : w.ownsRow base e size v n xs) (hr : Reps G es xs) (hn : n = es.length)
    (ho : ∀ g, v.ownBlock = some g → Out G g) :
    ∃ G' a cap, v = .slice a n cap ∧ Com w G' ∧ Ext base G G' ∧ SliceIs G' es a n cap ∧ (∀ b, Out G b → v.ownBlock ≠ some b → Out G' b) := by
  have h' := h
  rcases h.2 with ⟨rfl, rfl⟩ | ⟨g, cap, cur, rfl, hb, hg, hnc, hcm, hcs, htake⟩
  · exact ⟨G, none, 0, rfl, hC, Ext.refl _ _, ⟨hn, by omega, by decide, xs, hr, fun hl => by omega⟩, fun b hb _ => hb⟩
  · have hO : Out G g := ho g rfl
    have hE := lay_ext (cs := xs) hO hb
    refine ⟨lay G g xs, some ⟨g, 0, none⟩, cap, rfl, lay_com hC (own_cells h').2, hE, ⟨hn, hnc, hcm, xs, hr.ext hE, fun _ => ⟨g, 0, rfl, fun i u hu => ?_⟩⟩, fun b hb hne => ?_⟩
    · rw [Nat.zero_add, lay_at]; exact hu
    · exact lay_out hb (fun e => hne (by rw [e]; rfl))

/-! ### the walk's state: w0, G0: as it began; r: the block that came in and may be written; w, G: now. A contract: 'St G w r G w' ahead of the call, 'St G w r G' w'' behind it. -/
structure St (G0 : GG) (w0 : World) (r : Option Nat) (G : GG) (w : World) : Prop where
  ext : Ext w0.heap.size G0 G
  com : Com w G
  gr : w0.grownBy w r
  out : ∀ g, r = some g → Out G g ∧ g < w0.heap.size

theorem St.start {G : GG} {w : World} (h : Com w G) : St G w none G w := ⟨Ext.refl _ _, h, grefl _ _, fun _ h => by cases h⟩
theorem St.begin {G : GG} {w : World} {b : Nat} (h : Com w G) (ho : Out G b) (hb : b < w.heap.size) : St G w (some b) G w :=
  ⟨Ext.refl _ _, h, grefl _ _, fun g hg => by injection hg with hg; subst hg; exact ⟨ho, hb⟩⟩
theorem St.now {G0 G : GG} {w0 w : World} {r : Option Nat} (h : St G0 w0 r G w) : St G w r G w :=
  ⟨Ext.refl _ _, h.com, grefl _ _, fun g hg => ⟨(h.out g hg).1, Nat.lt_of_lt_of_le (h.out g hg).2 h.gr.size⟩⟩
theorem St.size {G0 G : GG} {w0 w : World} {r : Option Nat} (h : St G0 w0 r G w) : w0.heap.size ≤ w.heap.size := h.gr.size
theorem St.alloc {G0 G : GG} {w0 w : World} {r : Option Nat} (h : St G0 w0 r G w) (o : Obj) : St G0 w0 r G (w.alloc o) := ⟨h.ext, h.com.alloc o, galloc h.gr o, h.out⟩
theorem St.drew {G0 G : GG} {w0 w : World} {r : Option Nat} (h : St G0 w0 r G w) : St G0 w0 r G w.drew := ⟨h.ext, h.com.drew, gdrew h.gr, h.out⟩
theorem St.drewN {G0 G : GG} {w0 w : World} {r : Option Nat} (h : St G0 w0 r G w) (n : Nat) : St G0 w0 r G (w.drewN n) := ⟨h.ext, h.com.drewN n, gdrewN h.gr n, h.out⟩
theorem St.call {G0 G G' : GG} {w0 w w' : World} {r : Option Nat} (h : St G0 w0 r G w) (k : St G w r G' w') : St G0 w0 r G' w' :=
  ⟨h.ext.trans k.ext h.gr.size, k.com, gtrans h.gr k.gr, fun g hg => ⟨(k.out g hg).1, (h.out g hg).2⟩⟩
/-- the call writes a block of the walk's own -/
theorem St.call_own {G0 G G' : GG} {w0 w w' : World} {r s : Option Nat} (h : St G0 w0 r G w) (k : St G w s G' w') (hs : ∀ g, s = some g → w0.heap.size ≤ g) : St G0 w0 r G' w' :=
  ⟨h.ext.trans k.ext h.gr.size, k.com, gtrans_new h.gr k.gr hs, fun g hg => ⟨k.ext.out (h.out g hg).1 (Nat.lt_of_lt_of_le (h.out g hg).2 h.gr.size), (h.out g hg).2⟩⟩
theorem St.call_none {G0 G G' : GG} {w0 w w' : World} {r : Option Nat} (h : St G0 w0 r G w) (k : St G w none G' w') : St G0 w0 r G' w' := h.call_own k (fun _ h => by cases h)
/-- a world step that the book doesn't feel -/
theorem St.step {G0 G : GG} {w0 w w' : World} {r s : Option Nat} (h : St G0 w0 r G w) (hg : w.grownBy w' s) (hs : ∀ g, s = some g → w0.heap.size ≤ g ∧ Out G g) : St G0 w0 r G w' :=
  ⟨h.ext, h.com.grown hg (fun g e => (hs g e).2), gtrans_new h.gr hg (fun g e => (hs g e).1), h.out⟩
theorem St.set_own {G0 G : GG} {w0 w : World} {r : Option Nat} (h : St G0 w0 r G w) {b : Nat} (hb : w0.heap.size ≤ b) (ho : Out G b) (i : Nat) (u : Value) : St G0 w0 r G (w.setCell ⟨b, i, none⟩ u) :=
  ⟨h.ext, h.com.set_ ho i u, gset h.gr b i u (.inr hb), h.out⟩
theorem St.set_r {G0 G : GG} {w0 w : World} {b : Nat} (h : St G0 w0 (some b) G w) (i : Nat) (u : Value) : St G0 w0 (some b) G (w.setCell ⟨b, i, none⟩ u) :=
  ⟨h.ext, h.com.set_ (h.out b rfl).1 i u, gset h.gr b i u (.inl rfl), h.out⟩
/-- the book grows, the world stays -/
theorem St.laid {G0 G G' : GG} {w0 w : World} {r : Option Nat} (h : St G0 w0 r G w) (he : Ext w0.heap.size G G') (hC : Com w G') : St G0 w0 r G' w :=
  ⟨h.ext.trans he (Nat.le_refl _), hC, h.gr, fun g hg => ⟨he.out (h.out g hg).1 (h.out g hg).2, (h.out g hg).2⟩⟩
theorem St.below {G0 G : GG} {w0 w : World} (h : St G0 w0 none G w) : Below w0.heap.size w0 w := gbelow h.gr

/-- a block of the walk's own -/
structure Ob (B : Nat) (G : GG) (w : World) (b : Nat) (t : TypeId) (cs : Array Value) : Prop where
  new : B ≤ b
  blk : Blk w b t cs
  out : Out G b

section
variable {B : Nat} {G G' : GG} {w w' : World} {b : Nat} {t : TypeId} {cs : Array Value}
theorem Ob.made (hC : Com w G) (hB : B ≤ w.heap.size) (t : TypeId) (cs : Array Value) : Ob B G (w.alloc (.cells cs t)) w.heap.size t cs := ⟨hB, Blk.new w t cs, hC.out (Nat.le_refl _)⟩
theorem Ob.lt (h : Ob B G w b t cs) : b < w.heap.size := h.blk.lt
theorem Ob.call {r : Option Nat} (h : Ob B G w b t cs) (k : St G w r G' w') (hr : r ≠ some b) : Ob B G' w' b t cs :=
  ⟨h.new, h.blk.grown k.gr (fun e => hr e.symm), k.ext.out h.out h.lt⟩
theorem Ob.alloc (h : Ob B G w b t cs) (o : Obj) : Ob B G (w.alloc o) b t cs := ⟨h.new, h.blk.alloc o, h.out⟩
theorem Ob.drew (h : Ob B G w b t cs) : Ob B G w.drew b t cs := ⟨h.new, h.blk, h.out⟩
theorem Ob.drewN (h : Ob B G w b t cs) (n : Nat) : Ob B G (w.drewN n) b t cs := ⟨h.new, h.blk, h.out⟩
theorem Ob.set_ (h : Ob B G w b t cs) (i : Nat) (u : Value) : Ob B G (w.setCell ⟨b, i, none⟩ u) b t (cs.setIfInBounds i u) := ⟨h.new, h.blk.set_ i u, h.out⟩
theorem Ob.far (h : Ob B G w b t cs) {g : Nat} (hg : b ≠ g) (i : Nat) (u : Value) : Ob B G (w.setCell ⟨g, i, none⟩ u) b t cs := ⟨h.new, h.blk.far hg u, h.out⟩
theorem Ob.step {s : Option Nat} (h : Ob B G w b t cs) (hg : w.grownBy w' s) (hs : s ≠ some b) : Ob B G w' b t cs := ⟨h.new, h.blk.grown hg (fun e => hs e.symm), h.out⟩
theorem Ob.laid (h : Ob B G w b t cs) (ho : Out G' b) : Ob B G' w b t cs := ⟨h.new, h.blk, ho⟩
theorem Ob.cell (h : Ob B G w b t cs) (i : Nat) : w.cell? ⟨b, i, none⟩ = cs[i]? := h.blk.cell i
theorem Ob.frozen (h : Ob B G w b t cs) (i : Nat) : w.frozen? ⟨b, i, none⟩ = false := h.blk.frozen i
end

/-- a row of the walk's own, that still grows: its elements so far -/
structure Row (B : Nat) (G : GG) (w : World) (e : TypeId) (size : Nat) (v : Value) (es : List Dat) : Prop where
  ex : ∃ cs, w.ownsRow B e size v es.length cs ∧ Reps G es cs
  out : ∀ g, v.ownBlock = some g → Out G g

section
variable {B : Nat} {G G' : GG} {w w' : World} {e : TypeId} {size : Nat} {v : Value} {es : List Dat}
theorem Row.nil (G : GG) (w : World) (B : Nat) (e : TypeId) (size : Nat) : Row B G w e size (.slice none 0 0) [] := ⟨⟨[], World.ownsRow_nil w B e size, .nil⟩, fun g h => by cases h⟩
theorem Row.lt (h : Row B G w e size v es) {g : Nat} (hg : v.ownBlock = some g) : B ≤ g ∧ g < w.heap.size := by obtain ⟨⟨cs, h1, _⟩, _⟩ := h; exact h1.lt g hg
theorem Row.form (h : Row B G w e size v es) : ∃ a cap, v = .slice a es.length cap := by
  obtain ⟨⟨cs, h1, _⟩, _⟩ := h
  rcases h1.2 with ⟨rfl, h0⟩ | ⟨g, cap, cur, rfl, _⟩
  · exact ⟨none, 0, by rw [h0]⟩
  · exact ⟨_, _, rfl⟩
theorem Row.step {s : Option Nat} (h : Row B G w e size v es) (hg : w.grownBy w' s) (hs : ∀ g, s = some g → v.ownBlock ≠ some g) : Row B G w' e size v es := by
  obtain ⟨⟨cs, h1, h2⟩, h3⟩ := h
  refine ⟨⟨cs, h1.kept hg ?_, h2⟩, h3⟩
  cases hv : v.ownBlock with
  | none => exact .inl rfl
  | some g => exact .inr (fun e => hs g e.symm hv)
theorem Row.call {r : Option Nat} (h : Row B G w e size v es) (k : St G w r G' w') (hs : ∀ g, r = some g → v.ownBlock ≠ some g) : Row B G' w' e size v es := by
  obtain ⟨⟨cs, h1, h2⟩, h3⟩ := h.step k.gr hs
  exact ⟨⟨cs, h1, h2.ext k.ext⟩, fun g hg => k.ext.out (h3 g hg) (h.lt hg).2⟩
theorem Row.alloc (h : Row B G w e size v es) (o : Obj) : Row B G (w.alloc o) e size v es := h.step (galloc (grefl w none) o) (fun _ h => by cases h)
theorem Row.drew (h : Row B G w e size v es) : Row B G w.drew e size v es := h.step (gdrew (grefl w none)) (fun _ h => by cases h)
theorem Row.drewN (h : Row B G w e size v es) (n : Nat) : Row B G (w.drewN n) e size v es := h.step (gdrewN (grefl w none) n) (fun _ h => by cases h)
theorem Row.set_ (h : Row B G w e size v es) {b : Nat} (hb : v.ownBlock ≠ some b) (i : Nat) (u : Value) : Row B G (w.setCell ⟨b, i, none⟩ u) e size v es :=
  h.step (gset (grefl w (some b)) b i u (.inl rfl)) (fun g hg => by injection hg with hg; subst hg; exact hb)
theorem Row.ne_ob (h : Row B G w e size v es) {b : Nat} {t : TypeId} {cs : Array Value} (hb : Blk w b t cs) (hne : e ≠ t) : v.ownBlock ≠ some b := by
  obtain ⟨⟨xs, h1, _⟩, _⟩ := h
  rcases h1.2 with ⟨rfl, _⟩ | ⟨g', cap, cur, rfl, _, hh, _⟩
  · simp [Value.ownBlock]
  · intro he
    have : g' = b := by simpa [Value.ownBlock] using he
    subst this
    unfold Blk at hb
    rw [hh] at hb
    injection hb with hb
    injection hb with _ ht
    exact hne ht
/-- behind an append -/
theorem Row.more (h : Row B G w e size v es) (hC : Com w G) {v' : Value} {es' : List Dat} {cs' : List Value} (hown : ∃ cs, w.ownsRow B e size v es.length cs ∧ Reps G es cs ∧ w'.ownsRow B e size v' (es.length + es'.length) (cs ++ cs'))
    (hr : Reps G es' cs') (ho : v'.ownBlock = v.ownBlock ∨ ∃ g, v'.ownBlock = some g ∧ w.heap.size ≤ g) : Row B G w' e size v' (es ++ es') := by
  obtain ⟨cs, _, h2, h3⟩ := hown
  refine ⟨⟨cs ++ cs', by simpa using h3, h2.append hr⟩, fun g hg => ?_⟩
  rcases ho with ho | ⟨g', ho, hl⟩
  · exact h.out g (by rw [← ho]; exact hg)
  · rw [ho] at hg
    injection hg with hg
    subst hg
    exact hC.out hl
/-- the row is laid in the book -/
theorem Row.done (h : Row B G w e size v es) (hC : Com w G) : ∃ G' a cap, v = .slice a es.length cap ∧ Com w G' ∧ Ext B G G' ∧ SliceIs G' es a es.length cap ∧ ∀ b, Out G b → v.ownBlock ≠ some b → Out G' b := by
  obtain ⟨⟨cs, h1, h2⟩, h3⟩ := h
  exact own_lay hC h1 h2 rfl h3
end

theorem Reps.one {G : GG} {ds : List Dat} {cs : List Value} (h : Reps G ds cs) : ∀ u ∈ cs, u.oneCell' = true := by
  induction h with
  | nil => simp
  | int _ _ ih => intro u hu; rcases List.mem_cons.1 hu with rfl | hu; · rfl
                  · exact ih u hu
  | bool _ ih => intro u hu; rcases List.mem_cons.1 hu with rfl | hu; · rfl
                 · exact ih u hu
  | str _ ih => intro u hu; rcases List.mem_cons.1 hu with rfl | hu; · rfl
                · exact ih u hu
  | node _ _ ih1 ih2 => intro u hu; rcases List.mem_append.1 hu with hu | hu; · exact ih1 u hu
                        · exact ih2 u hu
  | list _ _ _ _ _ _ ih => intro u hu; rcases List.mem_cons.1 hu with rfl | hu; · rfl
                           · exact ih u hu

/-! ### append onto a row of the walk's own -/
/-- where the appended cells lie -/
def Src (w : World) (x : Value) (m : Nat) (news : List Value) : Prop := ∃ A c, x = .slice A m c ∧ (0 < m → ∃ ad : Addr, A = some ad ∧ ∀ j u, news[j]? = some u → w.cell? (ad.add j) = some u)

theorem addr_add (b o j : Nat) : (⟨b, o, none⟩ : Addr).add j = ⟨b, o + j, none⟩ := by unfold Addr.add; split <;> simp_all
theorem Src.blk {w : World} {g c : Nat} {t : TypeId} {cs : Array Value} (h : Blk w g t cs) (m : Nat) : Src w (.slice (some ⟨g, 0, none⟩) m c) m cs.toList :=
  ⟨_, _, rfl, fun _ => ⟨_, rfl, fun j u hu => by rw [addr_add, Nat.zero_add, h.cell j]; simpa using hu⟩⟩
theorem Src.book {w : World} {G : GG} {es : List Dat} {a : Option Addr} {len cap : Nat} (hC : Com w G) (h : SliceIs G es a len cap) : ∃ cs, Reps G es cs ∧ Src w (.slice a len cap) len cs := by
  obtain ⟨h0, hc, hm, cs, h1, ha⟩ := h
  refine ⟨cs, h1, a, cap, rfl, fun hl => ?_⟩
  obtain ⟨b, off, rfl, h⟩ := ha hl
  exact ⟨_, rfl, fun j u hu => by rw [addr_add]; exact hC _ _ _ (h j u hu)⟩

section
variable {P : Program} (w : World)

theorem run_append_row {B : Nat} {G : GG} {e : TypeId} {size : Nat} {v : Value} {es : List Dat} (t ty : TypeId) (i : TypeInfo) (z : Value) (bytes : Nat) (ht : P.underlying t = some (.slice e)) (hi : P.info? e = some i) (hz : i.zero = some z)
    (hsize : i.size = size) (hby : i.bytes = bytes) (hzs : z.cells.size = size) (hsz : 0 < size)
    (hrow : Row B G w e size v es) (hC : Com w G) (x : Value) (es' : List Dat) (news : List Value) (hx : Src w x es'.length news) (hr : Reps G es' news) (hl : news.length = es'.length * size)
    (hbytes : (es.length + es'.length) * (bytes + 1) ≤ 140737488355328) (hB : B ≤ w.heap.size) :
    ∃ v' w', (Builtin.append_ #[t, t] ty #[v, x]).run P w = .ok v' w' ∧ Row B G w' e size v' (es ++ es') ∧ w.grownBy w' v.ownBlock ∧ (v'.ownBlock = v.ownBlock ∨ v'.ownBlock = some w.heap.size) := by
  obtain ⟨⟨xs, hown, hxs⟩, hout⟩ := hrow
  obtain ⟨A, c, rfl, hA⟩ := hx
  have hb : (es.length + es'.length) * bytes + (es.length + es'.length) ≤ 140737488355328 := by rw [Nat.mul_add, Nat.mul_one] at hbytes; exact hbytes
  rcases Nat.eq_zero_or_pos es'.length with h0 | h0
  · have he : es' = [] := List.eq_nil_of_length_eq_zero h0
    subst he
    obtain rfl := hr.inv_nil
    have hrun : (Builtin.append_ #[t, t] ty #[v, .slice A ([] : List Dat).length c]).run P w = .ok v w := by
      rcases hown.2 with ⟨rfl, _⟩ | ⟨g, cap, cur, rfl, _, _, hnc, _⟩
      · cases A <;> simp [Builtin.append_, run_underlying ht, sizeOf, typeInfo, hi, Builtin.lenOf, Builtin.firstCells, loadCells, loadCellsFrom]
      · cases A <;> simp [Builtin.append_, run_underlying ht, sizeOf, typeInfo, hi, Builtin.lenOf, Builtin.firstCells, hnc, storeCells, loadCells, loadCellsFrom]
    exact ⟨v, w, hrun, by simpa using ⟨⟨xs, hown, hxs⟩, hout⟩, grefl _ _, .inl rfl⟩
  · obtain ⟨ad, rfl, hcell⟩ := hA h0
    obtain ⟨v', w', hrun, h2, h3, _, h5⟩ := run_append_own_at (P := P) w B t ty e i z size bytes ht hi hz hsize hby hzs hsz v es.length xs hown ad es'.length c news hl hcell hr.one (by simp only [maxLen]; omega) (by omega) hB
    refine ⟨v', w', hrun, ⟨⟨xs ++ news, by simpa using h2, hxs.append hr⟩, fun g hg => ?_⟩, h3, h5⟩
    rcases h5 with h5 | h5
    · exact hout g (by rw [← h5]; exact hg)
    · rw [h5] at hg
      injection hg with hg
      subst hg
      exact hC.out (Nat.le_refl _)

theorem wp_append_row {o : Oper} {a : Act} {K : Act → World → Prop} {Q : Exit → Act → World → Prop} (s x : Operand) (t : TypeId)
    (ho : o.op = .call { callee := .builtin .append, args := #[s, x], argTypes := #[t, t] })
    {B : Nat} {G : GG} {e : TypeId} {size : Nat} {es : List Dat} (i : TypeInfo) (z : Value) (bytes : Nat) (ht : P.underlying t = some (.slice e)) (hi : P.info? e = some i) (hz : i.zero = some z)
    (hsize : i.size = size) (hby : i.bytes = bytes) (hzs : z.cells.size = size) (hsz : 0 < size)
    (hrow : Row B G w e size (a.eval s) es) (hC : Com w G) (es' : List Dat) (news : List Value) (hx : Src w (a.eval x) es'.length news) (hr : Reps G es' news) (hl : news.length = es'.length * size)
    (hbytes : (es.length + es'.length) * (bytes + 1) ≤ 140737488355328) (hB : B ≤ w.heap.size)
    (h : ∀ v' w', Row B G w' e size v' (es ++ es') → w.grownBy w' (a.eval s).ownBlock → (v'.ownBlock = (a.eval s).ownBlock ∨ v'.ownBlock = some w.heap.size) → K (a.put o.dst v') w') : o.wp P a w K Q := by
  obtain ⟨v', w', hrun, h2, h3, h4⟩ := run_append_row (P := P) w t o.type i z bytes ht hi hz hsize hby hzs hsz hrow hC _ es' news hx hr hl hbytes hB
  unfold Oper.wp execOp
  simp only [ho, resolve, invoke, builtin, Sem.run_bind, Sem.run_pure, Result.andThen_ok, List.map_toArray, List.map_cons, List.map_nil, hrun]
  exact h v' w' h2 h3 h4

theorem wpList_append_row {ops : Array Oper} {rest : List Oper} {o : Oper} {a : Act} {Q : Exit → Act → World → Prop} (hgd : o.guard = none) (s x : Operand) (t : TypeId)
    (ho : o.op = .call { callee := .builtin .append, args := #[s, x], argTypes := #[t, t] })
    {B : Nat} {G : GG} {e : TypeId} {size : Nat} {es : List Dat} (i : TypeInfo) (z : Value) (bytes : Nat) (ht : P.underlying t = some (.slice e)) (hi : P.info? e = some i) (hz : i.zero = some z)
    (hsize : i.size = size) (hby : i.bytes = bytes) (hzs : z.cells.size = size) (hsz : 0 < size)
    (hrow : Row B G w e size (a.eval s) es) (hC : Com w G) (es' : List Dat) (news : List Value) (hx : Src w (a.eval x) es'.length news) (hr : Reps G es' news) (hl : news.length = es'.length * size)
    (hbytes : (es.length + es'.length) * (bytes + 1) ≤ 140737488355328) (hB : B ≤ w.heap.size)
    (h : ∀ v' w', Row B G w' e size v' (es ++ es') → w.grownBy w' (a.eval s).ownBlock → (v'.ownBlock = (a.eval s).ownBlock ∨ v'.ownBlock = some w.heap.size) → wpList P ops Q rest (a.put o.dst v') w') : wpList P ops Q (o :: rest) a w :=
  wpList_plain hgd fun _ hK => wp_append_row w s x t ho i z bytes ht hi hz hsize hby hzs hsz hrow hC es' news hx hr hl hbytes hB fun v' w' h2 h3 h4 => hK _ _ (h v' w' h2 h3 h4)

theorem step_append_row {ops : Array Oper} {o : Oper} {a : Act} {K : Act → World → Prop} {Q : Exit → Act → World → Prop} {E : Prop} (hgd : o.guard = none) (s x : Operand) (t : TypeId)
    (ho : o.op = .call { callee := .builtin .append, args := #[s, x], argTypes := #[t, t] })
    {B : Nat} {G : GG} {e : TypeId} {size : Nat} {es : List Dat} (i : TypeInfo) (z : Value) (bytes : Nat) (ht : P.underlying t = some (.slice e)) (hi : P.info? e = some i) (hz : i.zero = some z)
    (hsize : i.size = size) (hby : i.bytes = bytes) (hzs : z.cells.size = size) (hsz : 0 < size)
    (hrow : Row B G w e size (a.eval s) es) (hC : Com w G) (es' : List Dat) (news : List Value) (hx : Src w (a.eval x) es'.length news) (hr : Reps G es' news) (hl : news.length = es'.length * size)
    (hbytes : (es.length + es'.length) * (bytes + 1) ≤ 140737488355328) (hB : B ≤ w.heap.size)
    (h : ∀ v' w', Row B G w' e size v' (es ++ es') → w.grownBy w' (a.eval s).ownBlock → (v'.ownBlock = (a.eval s).ownBlock ∨ v'.ownBlock = some w.heap.size) → K (a.put o.dst v') w') :
    if Region.wanted o (yielded ops a.tmps) = true then Oper.wp P o a w K Q else E := by
  have hw : Region.wanted o (yielded ops a.tmps) = true := by simp [Region.wanted, hgd]
  rw [if_pos hw]
  exact wp_append_row w s x t ho i z bytes ht hi hz hsize hby hzs hsz hrow hC es' news hx hr hl hbytes hB h
end

/-! ### append of a string's bytes -/
open Go.Lib in
theorem run_append_str_row {P : Program} (w : World) {B : Nat} {G : GG} {v : Value} {es : List Dat} (t u ty e : TypeId) (i : TypeInfo) (ht : P.underlying t = some (.slice e)) (hu : P.underlying u = some .string) (hi : P.info? e = some i) (hz : i.zero = some (.int .u8 0))
    (hsize : i.size = 1) (hby : i.bytes = 1) (hrow : Row B G w e 1 v es) (hC : Com w G) (s : ByteArray) (h47 : es.length + s.size ≤ 70368744177664) (hB : B ≤ w.heap.size) :
    ∃ v' w', (Builtin.append_ #[t, u] ty #[v, .string s]).run P w = .ok v' w' ∧ Row B G w' e 1 v' (es ++ (s.data.toList.map fun c => Dat.int .u8 c.toNat)) ∧ w.grownBy w' v.ownBlock ∧ (v'.ownBlock = v.ownBlock ∨ v'.ownBlock = some w.heap.size) := by
  have hlen : (es ++ (s.data.toList.map fun c => Dat.int .u8 c.toNat)).length = es.length + s.size := by simp
  have hreps : Reps G (s.data.toList.map fun c => Dat.int .u8 c.toNat) (strCells s) := by
    have hg : ∀ l : List UInt8, Reps G (l.map fun c => Dat.int .u8 c.toNat) (l.map fun c => Value.int .u8 c.toNat) := by
      intro l
      induction l with
      | nil => exact .nil
      | cons c l ih => exact .int (WalkArith.wf_u8 (by have := c.toNat_lt; omega)) ih
    exact hg _
  obtain ⟨⟨xs, hown, hxs⟩, hout⟩ := hrow
  have key : ∃ v' w', (Builtin.append_ #[t, u] ty #[v, .string s]).run P w = .ok v' w' ∧ w'.ownsRow B e 1 v' (es.length + s.size) (xs ++ strCells s) ∧ w.grownBy w' v.ownBlock ∧ (v'.ownBlock = v.ownBlock ∨ v'.ownBlock = some w.heap.size) := by
    obtain ⟨v', w', hrun, h1, h2, h3⟩ := run_append_own_string (P := P) w B t u ty e i ht hu hi hz hsize hby v es.length xs hown s (by simp only [maxLen]; omega) (by omega) hB
    refine ⟨v', w', hrun, h1, h2, ?_⟩
    have hn1 : xs.length = es.length := by simpa using hown.1
    rcases hown.2 with ⟨rfl, h0⟩ | ⟨g, cap, cur, rfl, hbg, hg, hnc, hcm, hcs, htake⟩
    · rcases Nat.eq_zero_or_pos s.size with hs | hs
      · rw [h3.2 ⟨rfl, hs⟩]; exact .inl rfl
      · have hr := run_append_nil_string (P := P) w t u ty e i (.int .u8 0) ht hu hi hz s (by omega) (by omega) (by rw [hby]; omega)
        rw [hr] at hrun
        injection hrun with e1 e2
        rw [← e1]; exact .inr rfl
    · by_cases hroom : es.length + s.size ≤ cap
      · have hr := run_append_room_string (P := P) w t u ty e i ht hu hi hsize g es.length cap cur hg s hroom (by rw [hcs]; omega)
        rw [hr] at hrun
        injection hrun with e1 e2
        rw [← e1]; exact .inl rfl
      · have holds : ∀ j u, xs[j]? = some u → w.cell? ((⟨g, 0, none⟩ : Addr).add j) = some u := hown.cells (g := g) rfl
        have hr := run_append_grow_string (P := P) w t u ty e i (.int .u8 0) ht hu hi hz ⟨g, 0, none⟩ es.length cap xs (by rw [hsize]; simpa using hn1) holds s (by omega) (by omega) (by rw [hby]; exact growslice_fits (by omega) (by omega))
        rw [hr] at hrun
        injection hrun with e1 e2
        rw [← e1]; exact .inr rfl
  obtain ⟨v', w', hrun, h1, h2, h3⟩ := key
  refine ⟨v', w', hrun, ⟨⟨xs ++ strCells s, by rw [hlen]; exact h1, hxs.append hreps⟩, fun g hg => ?_⟩, h2, h3⟩
  rcases h3 with h3 | h3
  · exact hout g (by rw [← h3]; exact hg)
  · rw [h3] at hg
    injection hg with hg
    subst hg
    exact hC.out (Nat.le_refl _)
theorem step_append_str_row {P : Program} (w : World) {ops : Array Oper} {o : Oper} {a : Act} {K : Act → World → Prop} {Q : Exit → Act → World → Prop} {E : Prop} (hgd : o.guard = none) (sl x : Operand) (t u : TypeId)
    (ho : o.op = .call { callee := .builtin .append, args := #[sl, x], argTypes := #[t, u] })
    {B : Nat} {G : GG} {es : List Dat} (e : TypeId) (i : TypeInfo) (ht : P.underlying t = some (.slice e)) (hu : P.underlying u = some .string) (hi : P.info? e = some i) (hz : i.zero = some (.int .u8 0))
    (hsize : i.size = 1) (hby : i.bytes = 1) (hrow : Row B G w e 1 (a.eval sl) es) (hC : Com w G) (s : ByteArray) (hx : a.eval x = .string s) (h47 : es.length + s.size ≤ 70368744177664) (hB : B ≤ w.heap.size)
    (h : ∀ v' w', Row B G w' e 1 v' (es ++ (s.data.toList.map fun c => Dat.int .u8 c.toNat)) → w.grownBy w' (a.eval sl).ownBlock → (v'.ownBlock = (a.eval sl).ownBlock ∨ v'.ownBlock = some w.heap.size) → K (a.put o.dst v') w') :
    if Region.wanted o (yielded ops a.tmps) = true then Oper.wp P o a w K Q else E := by
  have hw : Region.wanted o (yielded ops a.tmps) = true := by simp [Region.wanted, hgd]
  rw [if_pos hw]
  obtain ⟨v', w', hrun, h2, h3, h4⟩ := run_append_str_row (P := P) w t u o.type e i ht hu hi hz hsize hby hrow hC s h47 hB
  unfold Oper.wp execOp
  simp only [ho, resolve, invoke, builtin, Sem.run_bind, Sem.run_pure, Result.andThen_ok, List.map_toArray, List.map_cons, List.map_nil, hx, hrun]
  exact h v' w' h2 h3 h4

/-! ### a struct result in its variable -/
theorem ret_row {P : Program} {fn : Func} {R : Ending → World → Prop} {a : Act} {w : World} {p : Tmp} {ty g t : Nat} {cs : Array Value} (d : TypeDesc) (h : fn.results = #[.cell p ty]) (hp : a.tmps.getD p undef = .pointer (some ⟨g, 0, none⟩))
    (hb : Blk w g t cs) (hu : P.underlying ty = some d) (hd : (match d with | .struct _ | .array _ _ => true | _ => false) = true) (hi : (P.info? ty).map (·.size) = some cs.size) (hf : a.defers = [])
    (hR : R (.returned (.agg cs)) w) : bodyPost P fn R .ret a w :=
  bodyPost_ret (results_cell_row h _ w g t cs (0, 0) d hp hb hu hd hi) hf hR
theorem ret_row2 {P : Program} {fn : Func} {R : Ending → World → Prop} {a : Act} {w : World} {p q : Tmp} {ty g t : Nat} {cs : Array Value} (d : TypeDesc) (h : fn.results = #[.cell p ty, .tmp q]) (hp : a.tmps.getD p undef = .pointer (some ⟨g, 0, none⟩))
    (hb : Blk w g t cs) (hu : P.underlying ty = some d) (hd : (match d with | .struct _ | .array _ _ => true | _ => false) = true) (hi : (P.info? ty).map (·.size) = some cs.size) (hf : a.defers = [])
    (hR : R (.returned (.tuple #[.agg cs, a.tmps.getD q undef])) w) : bodyPost P fn R .ret a w := by
  refine bodyPost_ret (v := .tuple #[.agg cs, a.tmps.getD q undef]) ?_ hf hR
  rw [results_cell_tmp h]
  have hp' : a.tmps[p]?.getD undef = .pointer (some ⟨g, 0, none⟩) := by simpa using hp
  simp [hp', asAddr, run_loadVar_row w g t ty cs (0, 0) d hb hu hd hi]

/-! ### loads and stores of several cells at once, in a block that is known whole -/
section
variable {P : Program}
theorem run_store_part (w : World) {g off t : Nat} {cs cs' : Array Value} (ty : TypeId) (v : Value) (vs : List Value) (hb : Blk w g t cs) (hv : v.cells.toList = vs) (hsz : (P.info? ty).map (·.size) = some vs.length)
    (h1 : ∀ u ∈ vs, u.oneCell' = true) (hfit : off + vs.length ≤ cs.size) (hcs : cs'.toList = cs.toList.take off ++ vs ++ cs.toList.drop (off + vs.length)) :
    ∃ w', (storeVar ty ⟨g, off, none⟩ v).run P w = .ok () w' ∧ Blk w' g t cs' ∧ w.grownBy w' (some g) := by
  subst hv
  have hcs2 : cs' = (cs.toList.take off ++ v.cells.toList ++ cs.toList.drop (off + v.cells.toList.length)).toArray := by rw [← hcs]
  have hst := run_storeCells_at P g off t v.cells.toList 0 cs w hb (by simpa using hfit) h1
  simp only [Nat.add_zero] at hst
  rw [← hcs2] at hst
  refine ⟨w.setRow g cs', ?_, setRow_heap w g cs cs' t (0, 0) hb, ⟨rfl, rfl, rfl, by simp, fun k _ hk => setRow_other w g k _ (fun e => hk (by rw [e]))⟩⟩
  cases hq : P.info? ty with
  | none => simp [hq] at hsz
  | some i =>
    have hs : i.size = v.cells.size := by simpa [hq] using hsz
    simp [storeVar, Sem.run_bind, sizeOf, typeInfo, hq, hs, hst]

theorem wpList_store_part {ops : Array Oper} {rest : List Oper} {o : Oper} {a : Act} {w : World} {Q : Exit → Act → World → Prop} (hgd : o.guard = none) (ty : TypeId) (x y : Operand) (ho : o.op = .store ty x y)
    {g off t : Nat} {cs : Array Value} (cs' : Array Value) (vs : List Value) (hx : a.eval x = .pointer (some ⟨g, off, none⟩)) (hb : Blk w g t cs) (hv : (a.eval y).cells.toList = vs) (hsz : (P.info? ty).map (·.size) = some vs.length)
    (h1 : ∀ u ∈ vs, u.oneCell' = true) (hfit : off + vs.length ≤ cs.size) (hcs : cs'.toList = cs.toList.take off ++ vs ++ cs.toList.drop (off + vs.length))
    (h : ∀ w', Blk w' g t cs' → w.grownBy w' (some g) → wpList P ops Q rest (a.put o.dst undef) w') : wpList P ops Q (o :: rest) a w :=
  wpList_plain hgd fun _ hK => by
    obtain ⟨w', hrun, h2, h3⟩ := run_store_part (P := P) w ty (a.eval y) vs hb hv hsz h1 hfit hcs
    unfold Oper.wp execOp
    simp only [ho, hx, Instr.storeAt, Instr.sureAddr, Sem.run_bind, Sem.run_pure, Result.andThen_ok, hrun]
    exact hK _ _ (h w' h2 h3)
end

theorem fold_get (l : List Value) : ∀ (k : Nat) (cells : Array Value) (i : Nat), ((l.zipIdx k).foldl (fun (cs : Array Value) (p : Value × Nat) => cs.setIfInBounds (0 + p.2) p.1) cells)[i]? = if k ≤ i ∧ i < k + l.length ∧ i < cells.size then l[i - k]? else cells[i]? := by
  induction l with
  | nil => intro k cells i; simp; intro h1 h2; omega
  | cons x l ih =>
    intro k cells i
    simp only [List.zipIdx_cons, List.foldl_cons, Nat.zero_add] at ih ⊢
    rw [ih]
    simp only [Array.size_setIfInBounds, Array.getElem?_setIfInBounds, List.length_cons]
    by_cases h1 : k + 1 ≤ i ∧ i < k + 1 + l.length ∧ i < cells.size
    · rw [if_pos h1, if_pos (by omega), show i - k = (i - (k + 1)) + 1 by omega, List.getElem?_cons_succ]
    · rw [if_neg h1]
      by_cases h2 : i = k
      · subst h2
        by_cases h3 : i < cells.size
        · simp [h3]
        · simp [h3]
      · rw [if_neg (by omega), if_neg (by omega)]
theorem fold_all (c cells : Array Value) (h : cells.size = c.size) : c.zipIdx.foldl (fun (cs : Array Value) (p : Value × Nat) => cs.setIfInBounds (0 + p.2) p.1) cells = c := by
  apply Array.ext_getElem?
  intro i
  have h1 := fold_get c.toList 0 cells i
  rw [← Array.foldl_toList, Array.toList_zipIdx]
  rw [h1]
  by_cases h2 : i < c.size
  · rw [if_pos (by simp; omega)]; simp
  · rw [if_neg (by simp; omega)]; simp [h2, h]
theorem run_buildSlice_one {P : Program} (w : World) (t e : TypeId) (i : TypeInfo) (z v : Value) (ht : P.underlying t = some (.slice e)) (hi : P.info? e = some i) (hz : i.zero = some z) (hs : v.cells.size = i.size) (h0 : 0 < i.size) (hsm : i.size ≤ 1000) :
    (Instr.buildSlice t 1 #[(0, v)]).run P w = .ok (.slice (some ⟨w.heap.size, 0, none⟩) 1 1) (w.alloc (.cells v.cells e)) := by
  have hf := fold_all v.cells ((Array.range (1 * i.size)).map (z.cells[· % z.cells.size]!)) (by simp [hs])
  have hzv : (zeroValue e).run P w = .ok z w := by simp [zeroValue, typeInfo, hi, hz]
  simp [Instr.buildSlice, run_underlying ht, sizeOf, typeInfo, hi, hzv, Instr.fill, hs, newRow] at hf ⊢
  rw [if_neg (by omega), if_neg (by omega), hf]

theorem wpList_buildSlice_one {P : Program} {ops : Array Oper} {rest : List Oper} {o : Oper} {a : Act} {w : World} {Q : Exit → Act → World → Prop} (hgd : o.guard = none) (t : TypeId) (x : Operand) (ho : o.op = .buildSlice t 1 #[(0, x)])
    (e : TypeId) (i : TypeInfo) (z : Value) (size bytes : Nat) (ht : P.underlying t = some (.slice e)) (hi : P.info? e = some i) (hz : i.zero = some z) (hsize : i.size = size) (_hby : i.bytes = bytes) (_hzs : z.cells.size = size) (h0 : 0 < size) (hsm : size ≤ 1000)
    (cs : List Value) (hx : a.eval x = .agg ⟨cs⟩) (hs : cs.length = size)
    (h : wpList P ops Q rest (a.put o.dst (.slice (some ⟨w.heap.size, 0, none⟩) 1 1)) (w.alloc (.cells ⟨cs⟩ e))) : wpList P ops Q (o :: rest) a w :=
  wpList_plain hgd fun _ hK => by
    subst hsize
    have hrun := run_buildSlice_one (P := P) w t e i z (.agg ⟨cs⟩) ht hi hz (by simpa [Value.cells] using hs) h0 hsm
    unfold Oper.wp execOp
    simp only [ho, List.map_toArray, List.map_cons, List.map_nil, hx, Sem.run_bind, Sem.run_pure, Result.andThen_ok, hrun]
    exact hK _ _ h
theorem step_buildSlice_one {P : Program} {ops : Array Oper} {o : Oper} {a : Act} {w : World} {K : Act → World → Prop} {Q : Exit → Act → World → Prop} {E : Prop} (hgd : o.guard = none) (t : TypeId) (x : Operand) (ho : o.op = .buildSlice t 1 #[(0, x)])
    (e : TypeId) (i : TypeInfo) (z : Value) (size bytes : Nat) (ht : P.underlying t = some (.slice e)) (hi : P.info? e = some i) (hz : i.zero = some z) (hsize : i.size = size) (_hby : i.bytes = bytes) (_hzs : z.cells.size = size) (h0 : 0 < size) (hsm : size ≤ 1000)
    (cs : List Value) (hx : a.eval x = .agg ⟨cs⟩) (hs : cs.length = size)
    (h : K (a.put o.dst (.slice (some ⟨w.heap.size, 0, none⟩) 1 1)) (w.alloc (.cells ⟨cs⟩ e))) : if Region.wanted o (yielded ops a.tmps) = true then Oper.wp P o a w K Q else E := by
  have hw : Region.wanted o (yielded ops a.tmps) = true := by simp [Region.wanted, hgd]
  rw [if_pos hw]
  subst hsize
  have hrun := run_buildSlice_one (P := P) w t e i z (.agg ⟨cs⟩) ht hi hz (by simpa [Value.cells] using hs) h0 hsm
  unfold Oper.wp execOp
  simp only [ho, List.map_toArray, List.map_cons, List.map_nil, hx, Sem.run_bind, Sem.run_pure, Result.andThen_ok, hrun]
  exact h

theorem run_load_cells {P : Program} (w : World) {b off : Nat} (xs : List Value) (hc : ∀ j u, xs[j]? = some u → w.cell? ⟨b, off + j, none⟩ = some u) (ty : TypeId) (d : TypeDesc) (hu : P.underlying ty = some d)
    (hd : (match d with | .struct _ | .array _ _ => true | _ => false) = true) (hi : (P.info? ty).map (·.size) = some xs.length) : (loadVar ty ⟨b, off, none⟩).run P w = .ok (.agg ⟨xs⟩) w := by
  have hl : (loadCells ⟨b, off, none⟩ xs.length).run P w = .ok xs.toArray w := run_loadCells_list (P := P) w ⟨b, off, none⟩ xs (fun j v hv => by rw [addr_add]; exact hc j v hv)
  cases hq : P.info? ty with
  | none => simp [hq] at hi
  | some i =>
    have hs : i.size = xs.length := by simpa [hq] using hi
    have hagg : (isAgg ty).run P w = .ok true w := by
      unfold isAgg
      rw [Sem.run_bind, run_underlying hu w]
      cases d <;> simp_all
    simp [loadVar, Sem.run_bind, hagg, sizeOf, typeInfo, hq, hs, hl]
theorem wpList_load_cells {P : Program} {ops : Array Oper} {rest : List Oper} {o : Oper} {a : Act} {w : World} {Q : Exit → Act → World → Prop} (hgd : o.guard = none) (ty : TypeId) (x : Operand) (ho : o.op = .load ty x)
    {b off : Nat} (xs : List Value) (hx : a.eval x = .pointer (some ⟨b, off, none⟩)) (hc : ∀ j u, xs[j]? = some u → w.cell? ⟨b, off + j, none⟩ = some u) (d : TypeDesc) (hu : P.underlying ty = some d)
    (hd : (match d with | .struct _ | .array _ _ => true | _ => false) = true) (hi : (P.info? ty).map (·.size) = some xs.length)
    (h : wpList P ops Q rest (a.put o.dst (.agg ⟨xs⟩)) w) : wpList P ops Q (o :: rest) a w :=
  wpList_plain hgd fun _ hK => by
    unfold Oper.wp execOp
    simp only [ho, hx, Instr.loadAt, Instr.sureAddr, Sem.run_bind, Sem.run_pure, Result.andThen_ok, run_load_cells w xs hc ty d hu hd hi]
    exact hK _ _ h

/-! ### two blocks of the walk's own: the variable 'tb' and the result's place 'sb'; 'rb' is the block that came in -/
structure Two (G0 : GG) (w0 : World) (rb tb sb T : Nat) (z : Array Value) (G : GG) (w : World) (cs : Array Value) : Prop where
  st : St G0 w0 (some rb) G w
  t : Ob w0.heap.size G w tb T cs
  o : Ob w0.heap.size G w sb T z
  ne : tb ≠ sb
section
variable {G0 : GG} {w0 : World} {rb tb sb T : Nat} {z : Array Value} {G G' : GG} {w w' : World} {cs : Array Value}
theorem Two.ne1 (h : Two G0 w0 rb tb sb T z G w cs) : rb ≠ tb := by have := (h.st.out rb rfl).2; have := h.t.new; omega
theorem Two.ne2 (h : Two G0 w0 rb tb sb T z G w cs) : rb ≠ sb := by have := (h.st.out rb rfl).2; have := h.o.new; omega
theorem Two.call (h : Two G0 w0 rb tb sb T z G w cs) (hS : St G w (some rb) G' w') : Two G0 w0 rb tb sb T z G' w' cs :=
  ⟨h.st.call hS, h.t.call hS (by simpa using h.ne1), h.o.call hS (by simpa using h.ne2), h.ne⟩
theorem Two.set_ (h : Two G0 w0 rb tb sb T z G w cs) (i : Nat) (u : Value) : Two G0 w0 rb tb sb T z G (w.setCell ⟨tb, i, none⟩ u) (cs.setIfInBounds i u) :=
  ⟨h.st.set_own h.t.new h.t.out i u, h.t.set_ i u, h.o.far (fun e => h.ne e.symm) i u, h.ne⟩
theorem Two.alloc (h : Two G0 w0 rb tb sb T z G w cs) (o : Obj) : Two G0 w0 rb tb sb T z G (w.alloc o) cs := ⟨h.st.alloc o, h.t.alloc o, h.o.alloc o, h.ne⟩
theorem Two.drew (h : Two G0 w0 rb tb sb T z G w cs) : Two G0 w0 rb tb sb T z G w.drew cs := ⟨h.st.drew, h.t.drew, h.o.drew, h.ne⟩
theorem Two.step {s : Option Nat} (h : Two G0 w0 rb tb sb T z G w cs) (hg : w.grownBy w' s) (hs : ∀ g, s = some g → w0.heap.size ≤ g ∧ Out G g) (h1 : s ≠ some tb) (h2 : s ≠ some sb) : Two G0 w0 rb tb sb T z G w' cs :=
  ⟨h.st.step hg hs, h.t.step hg h1, h.o.step hg h2, h.ne⟩
/-- 'tb' is written -/
theorem Two.put (h : Two G0 w0 rb tb sb T z G w cs) {cs' : Array Value} (hb : Blk w' tb T cs') (hg : w.grownBy w' (some tb)) : Two G0 w0 rb tb sb T z G w' cs' :=
  ⟨h.st.step hg (fun g e => by injection e with e; subst e; exact ⟨h.t.new, h.t.out⟩), ⟨h.t.new, hb, h.t.out⟩, h.o.step hg (by simpa using fun e => h.ne e), h.ne⟩
theorem Two.other (h : Two G0 w0 rb tb sb T z G w cs) {db t' : Nat} {cs' : Array Value} (hD : Ob w0.heap.size G w db t' cs') (hne : t' ≠ T) (hg : w.grownBy w' (some db)) : Two G0 w0 rb tb sb T z G w' cs :=
  h.step hg (fun g e => by injection e with e; subst e; exact ⟨hD.new, hD.out⟩) (by simpa using hD.blk.ne_ h.t.blk hne) (by simpa using hD.blk.ne_ h.o.blk hne)
theorem Two.laid (h : Two G0 w0 rb tb sb T z G w cs) (he : Ext w0.heap.size G G') (hC : Com w G') (h1 : Out G' tb) (h2 : Out G' sb) : Two G0 w0 rb tb sb T z G' w cs :=
  ⟨h.st.laid he hC, h.t.laid h1, h.o.laid h2, h.ne⟩
theorem Two.out (h : Two G0 w0 rb tb sb T z G w cs) {w'' : World} {z' : Array Value} (_ : Blk w'' sb T z') (hg : w.grownBy w'' (some sb)) : St G0 w0 (some rb) G w'' :=
  h.st.step hg (fun g e => by injection e with e; subst e; exact ⟨h.o.new, h.o.out⟩)
end

/-! ### a block 'wb' that came in and holds a row that grows, in block 'row': both may be written, and what is new -/
structure WFr (wb : Nat) (row : Option Nat) (w w' : World) : Prop where
  os : w'.os = w.os
  tape : w'.tape = w.tape
  output : w'.output = w.output
  size : w.heap.size ≤ w'.heap.size
  block : ∀ k, k < w.heap.size → k ≠ wb → some k ≠ row → w'.heap[k]? = w.heap[k]?
section
variable {wb : Nat} {row row1 : Option Nat} {w w1 w2 w' : World} {G : GG}
theorem WFr.refl (wb : Nat) (row : Option Nat) (w : World) : WFr wb row w w := ⟨rfl, rfl, rfl, Nat.le_refl _, fun _ _ _ _ => rfl⟩
theorem WFr.trans (h : WFr wb row w w1) (hr : row1 = row ∨ ∃ g, row1 = some g ∧ w.heap.size ≤ g) (k : WFr wb row1 w1 w2) : WFr wb row w w2 :=
  ⟨k.os.trans h.os, k.tape.trans h.tape, k.output.trans h.output, Nat.le_trans h.size k.size, fun i hi h1 h2 => (k.block i (Nat.lt_of_lt_of_le hi h.size) h1 (by
    rcases hr with hr | ⟨g, hr, hg⟩
    · rw [hr]; exact h2
    · rw [hr]; intro e; injection e with e; omega)).trans (h.block i hi h1 h2)⟩
theorem WFr.grown {s : Option Nat} (h : WFr wb row w w1) (k : w1.grownBy w' s) (hs : ∀ g, s = some g → g = wb ∨ some g = row ∨ w.heap.size ≤ g) : WFr wb row w w' :=
  ⟨k.os.trans h.os, k.tape.trans h.tape, k.output.trans h.output, Nat.le_trans h.size k.size, fun i hi h1 h2 => (k.block i (Nat.lt_of_lt_of_le hi h.size) (fun e => by
    rcases hs i e.symm with h | h | h
    · exact h1 h
    · exact h2 h
    · omega)).trans (h.block i hi h1 h2)⟩
theorem WFr.alloc (h : WFr wb row w w1) (o : Obj) : WFr wb row w (w1.alloc o) := h.grown (galloc (grefl w1 none) o) (fun _ e => by cases e)
theorem WFr.drew (h : WFr wb row w w1) : WFr wb row w w1.drew := h.grown (gdrew (grefl w1 none)) (fun _ e => by cases e)
theorem WFr.drewN (h : WFr wb row w w1) (n : Nat) : WFr wb row w (w1.drewN n) := h.grown (gdrewN (grefl w1 none) n) (fun _ e => by cases e)
theorem WFr.com (h : WFr wb row w w') (hC : Com w G) (h1 : Out G wb) (h2 : ∀ g, row = some g → Out G g) : Com w' G := by
  intro b o v hv
  have hb := hC.lt hv
  have hn1 : b ≠ wb := fun e => by subst e; rw [h1 o] at hv; cases hv
  have hn2 : some b ≠ row := fun e => by have := h2 b e.symm o; rw [this] at hv; cases hv
  rw [World.cell?_of_block (w := w) (a := ⟨b, o, none⟩) (h.block b hb hn1 hn2)]
  exact hC b o v hv
theorem WFr.blk {b t : Nat} {cs : Array Value} (h : WFr wb row w w') (hb : Blk w b t cs) (h1 : b ≠ wb) (h2 : some b ≠ row) : Blk w' b t cs := (h.block b hb.lt h1 h2).trans hb
end
theorem row_some {B : Nat} {G : GG} {w : World} {e size : Nat} {v : Value} {es : List Dat} (h : Row B G w e size v es) {g : Nat} (hg : v.ownBlock = some g) : ∃ cs fr, w.heap[g]? = some (.cells cs e fr) := by
  obtain ⟨⟨xs, h1, _⟩, _⟩ := h
  rcases h1.2 with ⟨rfl, _⟩ | ⟨g', cap, cur, rfl, _, hh, _⟩
  · cases hg
  · injection hg with hg; subst hg; exact ⟨_, _, hh⟩

end Go.Proofs.YtolhahlnccekcaaDoor
