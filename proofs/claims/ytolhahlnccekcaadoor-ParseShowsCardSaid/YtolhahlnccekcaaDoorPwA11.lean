/-
  Own helper theorems of no one function: conversions, lengths, calls; an operation, seen from above (stepOp).
-/
import Derived.Test.YtolhahlnccekcaaDoorPwA10
import Derived.Laws.IdiomStrings
namespace Go.Proofs.YtolhahlnccekcaaDoor.Abs
open Go.RowKit

section
variable {P : Program} {c c' : Conc} {m m' : M} {w w' : World}

/-- a string's bytes as the rows of a list -/
def bytesRows (s : ByteArray) : List (List V) := s.data.toList.map fun b => [.lit (.int .u8 (b.toNat : Int))]
theorem bytesRows_len (s : ByteArray) : (bytesRows s).length = s.size := by simp [bytesRows]
theorem bytes_flat : ∀ (l : List UInt8), (l.map fun b => [V.lit (.int .u8 (b.toNat : Int))]).flatten = (l.map fun b => Value.int .u8 (b.toNat : Int)).map V.lit := by
  intro l
  induction l with
  | nil => rfl
  | cons b l ih => simp only [List.map_cons, List.flatten_cons, ih]; rfl
theorem lits_ok (c : Conc) (xs : List Value) : CR c (xs.map V.lit) xs := by
  induction xs with
  | nil => exact .nil
  | cons x xs ih => exact .lit ih
theorem run_bytes_str {src dst e : TypeId} (hs : P.underlying src = some (.slice e)) (he : P.underlying e = some (.int .u8)) (hd : P.underlying dst = some .string) {G : GG} (hC : Com w G) {a : Option Addr} {s : ByteArray} {cap : Nat}
    (h : Lies G a (s.data.toList.map fun b => Value.int .u8 (b.toNat : Int))) : (convert src dst (.slice a s.size cap)).run P w = .ok (.string s) w := by
  rw [run_convert_bytes_string w src dst e a s.size cap hs he hd]
  have key : (s.data.toList.map fun b => (b.toNat : Int)).foldl (fun r n => r.push (UInt8.ofNat n.toNat)) ByteArray.empty = s := by
    rw [foldl_push_byteCells]
    cases s with | mk d => simp
  cases a with
  | none =>
    have h0 : s.data.toList = [] := by
      cases hx : s.data.toList with
      | nil => rfl
      | cons b l => exfalso; rw [hx] at h; obtain ⟨_, _, e, _⟩ := h (by simp); cases e
    have hs0 : s = ByteArray.empty := by rw [← key, h0]; rfl
    rw [hs0]; simp [Conv.bytesToString]
  | some ad =>
    have hl : (loadCells ad s.size).run P w = .ok ((s.data.toList.map fun b => (b.toNat : Int)).map (Value.int .u8)).toArray w := by
      have hlen : (s.data.toList.map fun b => Value.int .u8 (b.toNat : Int)).length = s.size := by simp
      have := run_loadCells_list (P := P) w ad (s.data.toList.map fun b => Value.int .u8 (b.toNat : Int)) (fun j v hv => by
        have hj : 0 < (s.data.toList.map fun b => Value.int .u8 (b.toNat : Int)).length := by have := (List.getElem?_eq_some_iff.1 hv).1; omega
        obtain ⟨b, off, e, hG⟩ := h hj
        injection e with e; subst e
        rw [addr_add]; exact hC _ _ _ (hG j v hv))
      rw [hlen] at this
      rw [this, List.map_map]; rfl
    rw [run_bytesToString w ad s.size cap _ hl, key]

theorem freeze_heap (w : World) (a : Addr) (n i : Nat) (h : i ≠ a.block) : (w.freeze a n).heap[i]? = w.heap[i]? := by
  unfold World.freeze
  split
  · rfl
  · simp [Array.getElem?_modify, show ¬ a.block = i from fun e => h e.symm]
def markO (off n : Nat) : Obj → Obj
  | .cells c elem (lo, hi) => .cells c elem (if lo == hi then (off, off + n) else (min lo off, max hi (off + n)))
  | o => o
theorem freeze_cell (w : World) (a : Addr) (n : Nat) (x : Addr) : (w.freeze a n).cell? x = w.cell? x := by
  by_cases hb : x.block = a.block
  · by_cases h0 : n = 0
    · simp [World.freeze, h0]
    · have key : (w.freeze a n).heap[x.block]? = (w.heap[x.block]?).map (markO a.off n) := by
        unfold World.freeze
        rw [if_neg h0]
        simp only [Array.getElem?_modify, hb, if_true]
        rfl
      unfold World.cell?
      rw [key]
      cases hq : w.heap[x.block]? with
      | none => rfl
      | some o => cases o <;> rfl
  · exact World.cell?_of_block (freeze_heap w a n _ hb)
/-- a literal's block is marked behind its last cell -/
theorem Rep.mark (h : Rep c m w) (q : Pa) {b n k : Nat} (hl : c.lit b) (ho : ¬ Out c.G b) : Rep c m (w.freeze ⟨b, n, none⟩ k) ∧ Ext q c m w c m (w.freeze ⟨b, n, none⟩ k) := by
  obtain ⟨l1, l2, l3⟩ := h.lit b hl
  have hsz : (w.freeze ⟨b, n, none⟩ k).heap.size = w.heap.size := by unfold World.freeze; split <;> simp
  have hh : ∀ i, i ≠ b → (w.freeze ⟨b, n, none⟩ k).heap[i]? = w.heap[i]? := fun i hi => freeze_heap w _ k i hi
  have hos : (w.freeze ⟨b, n, none⟩ k).os = w.os ∧ (w.freeze ⟨b, n, none⟩ k).tape = w.tape ∧ (w.freeze ⟨b, n, none⟩ k).output = w.output := by unfold World.freeze; split <;> exact ⟨rfl, rfl, rfl⟩
  refine ⟨⟨fun b' o v hv => by rw [freeze_cell]; exact h.com b' o v hv, fun id vs hv => ?_, h.inj, fun s b' cap sz len hlv hk => ?_, h.ownInj, h.ver, h.gl, h.ver0, by rw [hsz]; exact h.base, by rw [hsz]; exact h.lit⟩, ?_⟩
  · obtain ⟨b', cs, t, k1, k2, k3⟩ := h.blk id vs hv
    have hne : b' ≠ b := fun e => l3 (.inl ⟨id, by rw [hv]; simp, by rw [← e]; exact k1⟩)
    exact ⟨b', cs, t, k1, (hh b' hne).trans k2, k3⟩
  · obtain ⟨⟨cs, t, k1, k2⟩, k3⟩ := h.own s b' cap sz len hlv hk
    have hne : b' ≠ b := fun e => l3 (.inr ⟨s, cap, sz, len, hlv, by rw [← e]; exact hk⟩)
    exact ⟨⟨cs, t, (hh b' hne).trans k1, k2⟩, k3⟩
  · refine ⟨.refl c, hos.1, hos.2.1, hos.2.2, by rw [hsz]; exact Nat.le_refl _, fun b' hb' _ hx => hh b' (fun e => ?_), fun _ _ _ _ => rfl, fun _ _ x => x, fun _ _ x => x, fun _ _ x => x, fun _ _ x => x⟩
    subst e
    rcases hx with hx | hx
    · omega
    · exact ho hx

def sconv (P : Program) (src dst : TypeId) (v : V) (C : V → Prop) : Prop :=
  match P.underlying src, P.underlying dst, v with
  | some _, some (.int k), .lit (.int _ n) => C (.lit (.int k (k.wrap n)))
  | some .string, some .string, .lit (.string s) => C (.lit (.string s))
  | some (.slice e), some .string, .list _ rows => P.underlying e = some (.int .u8) ∧ ∃ s, rows = bytesRows s ∧ C (.lit (.string s))
  | some (.slice e), some (.slice _), .list .exact rows => src = dst ∧ P.underlying e = some (.int .u8) ∧ rows ≠ [] ∧ C (.list .exact rows)
  | some .string, some (.slice e), .lit (.string s) => P.underlying e = some (.int .u8) ∧ s.size ≤ 4611686018427387904 ∧ C (.list .none (bytesRows s))
  | _, _, _ => False
theorem sconv_ok {src dst : TypeId} {v : V} {C : V → Prop} (hs : sconv P src dst v C) (h : Rep c m w) (q : Pa) {x : Value} (hv : CR c [v] [x]) : ∃ r, C r ∧ ∃ c' z w', (convert src dst x).run P w = .ok z w' ∧ Rep c' m w' ∧ Ext q c m w c' m w' ∧ CR c' [r] [z] := by
  unfold sconv at hs
  split at hs
  · rename_i d k k' n hu hd
    obtain rfl := hv.inv_lit
    refine ⟨_, hs, c, _, w, ?_, h, .refl q c m w, .lit .nil⟩
    simp [convert, run_underlying hu, run_underlying hd, Conv.intToInt]
  · rename_i s hu hd
    obtain rfl := hv.inv_lit
    refine ⟨_, hs, c, _, w, ?_, h, .refl q c m w, .lit .nil⟩
    simp [convert, run_underlying hu, run_underlying hd]
  · rename_i e o rows hu hd
    obtain ⟨he, s, rfl, hC⟩ := hs
    obtain ⟨a, cap, es, sz, rfl, k1, k2, kz, k3, k4, k5, k6, kc, k7⟩ := hv.inv_list
    have hes : es = s.data.toList.map fun b => Value.int .u8 (b.toNat : Int) := by
      unfold bytesRows at k1
      rw [bytes_flat] at k1
      exact k1.lits
    subst hes
    refine ⟨_, hC, c, _, w, ?_, h, .refl q c m w, .lit .nil⟩
    rw [bytesRows_len]
    exact run_bytes_str hu he hd h.com k6
  · rename_i e e' rows hu hd
    obtain ⟨rfl, he, hne, hC⟩ := hs
    obtain ⟨a, cap, es, sz, rfl, k1, k2, kz, k3, k4, k5, k6, kc, k7⟩ := hv.inv_list
    have hpos : 0 < rows.length := by cases rows with | nil => exact absurd rfl hne | cons _ _ => simp
    obtain ⟨b, off, rfl⟩ := k5 hpos
    have hes : 0 < es.length := by rw [flat_len k1 k2]; exact Nat.mul_pos hpos kz
    obtain ⟨b', off', hab, hG⟩ := k6 hes
    injection hab with hab; injection hab with e1 e2; subst e1 e2
    have hlit : c.lit b := k7.2 ⟨b, off, none⟩ rfl
    have hG0 := hG 0 es[0] (by simp [hes])
    have hout : ¬ Out c.G b := fun ho => by rw [ho] at hG0; cases hG0
    have hcell := h.com _ _ _ hG0
    obtain ⟨cs, t, fr, hB⟩ : ∃ cs t fr, w.heap[b]? = some (.cells cs t fr) := by
      unfold World.cell? at hcell
      cases hq : w.heap[b]? with
      | none => simp [hq] at hcell
      | some o => cases o <;> first | exact ⟨_, _, _, rfl⟩ | simp [hq] at hcell
    have hee : e = e' := by rw [hu] at hd; injection hd with hd; injection hd
    subst hee
    obtain ⟨g1, g2⟩ := h.mark q (n := cs.size) (k := 1) hlit hout
    refine ⟨_, hC, c, .slice (some ⟨b, off, none⟩) rows.length cap, _, ?_, g1, g2, hv⟩
    have hsh : w.shape? b = some (t, cs.size) := by unfold World.shape?; rw [hB]
    simp [convert, run_underlying hu, run_underlying he, markStringish, hsh]
  · rename_i e s hu hd
    obtain rfl := hv.inv_lit
    obtain ⟨he, hsz, hC⟩ := hs
    have hrun := run_bytes_of_string (P := P) w src dst e s hu hd he
    have hge := grownCap_ge w s.size 0 e
    have hcm := grownCap_le_maxLen w s.size 0 e (by simp only [maxLen]; omega)
    have hrow : bytesRow s (grownCap w s.size 0 e) = ((s.data.toList.map fun (b : UInt8) => Value.int .u8 (b.toNat : Int)) ++ List.replicate (grownCap w s.size 0 e - s.size) (Value.int .u8 0)).toArray := by
      apply Array.ext'
      simp [bytesRow]
    have hnew := new_list (q := q) (c := c) (m := m) (w := w.drew) (rows := bytesRows s) (es := s.data.toList.map fun (b : UInt8) => Value.int .u8 (b.toNat : Int)) (rest := List.replicate (grownCap w s.size 0 e - s.size) (Value.int .u8 0)) (sz := 1) (o := Own.none) (cap := grownCap w s.size 0 e)
      (h.grown (w' := w.drew) (gdrew (grefl w none))) e ((bytesRow s (grownCap w s.size 0 e)).size, (bytesRow s (grownCap w s.size 0 e)).size + 1) (by unfold bytesRows; rw [bytes_flat]; exact lits_ok c _) (by
        intro r hr; obtain ⟨b, _, rfl⟩ := List.mem_map.1 hr; rfl) (by decide) (by
        intro u hu; obtain ⟨b, _, rfl⟩ := List.mem_map.1 hu; rfl) (by rw [bytesRows_len]; exact hge) hcm (.inl rfl)
    rw [← hrow, bytesRows_len] at hnew
    obtain ⟨c', g1, g2, g3⟩ := hnew
    exact ⟨_, hC, c', _, _, hrun, g1, (Rep.ext_grown q c m (w' := w.drew) (gdrew (grefl w none))).trans g2, g3⟩
  · exact hs.elim

def sun (op : UnOp) (v : V) (C : V → Prop) : Prop :=
  match op, v with
  | .neg, .lit (.int k n) => C (.lit (.int k (k.wrap (0 - n))))
  | .xor, .lit (.int k n) => C (.lit (.int k (k.wrap (BitVec.ofInt k.bits (if k.signed then -1 else k.max) ^^^ BitVec.ofInt k.bits n).toNat)))
  | .not, .lit (.bool b) => C (.lit (.bool !b))
  | _, _ => False
theorem sun_ok {op : UnOp} {v : V} {C : V → Prop} (hs : sun op v C) {x : Value} (hv : CR c [v] [x]) (w : World) : ∃ r, C r ∧ ∃ z, (Op.unary op x).run P w = .ok z w ∧ CR c [r] [z] := by
  unfold sun at hs
  split at hs
  · obtain rfl := hv.inv_lit; exact ⟨_, hs, _, by simp [Op.unary, Op.intArith], .lit .nil⟩
  · obtain rfl := hv.inv_lit; exact ⟨_, hs, _, by simp [Op.unary, Op.intBits], .lit .nil⟩
  · obtain rfl := hv.inv_lit; exact ⟨_, hs, _, by simp [Op.unary], .lit .nil⟩
  · exact hs.elim

def slen (P : Program) (T : TypeId) (v : V) (C : V → Prop) : Prop :=
  match P.underlying T, v with
  | some .string, .lit (.string s) => C (.lit (.int .i64 s.size))
  | some (.slice _), .list _ rows => C (.lit (.int .i64 rows.length))
  | some (.slice _), .arr _ _ len _ => C (.lit (.int .i64 len))
  | some (.array n _), _ => C (.lit (.int .i64 n))
  | _, _ => False
theorem slen_ok {T : TypeId} {v : V} {C : V → Prop} (hs : slen P T v C) {x : Value} (hv : CR c [v] [x]) (ats : Array TypeId) (ha : ats[0]? = some T) (ty : TypeId) (w : World) : ∃ r, C r ∧ ∃ z, (Builtin.len_ ats ty #[x]).run P w = .ok z w ∧ CR c [r] [z] := by
  unfold slen at hs
  split at hs
  · rename_i s hu
    obtain rfl := hv.inv_lit
    exact ⟨_, hs, _, by simp [Builtin.len_, ha, run_underlying hu, goInt], .lit .nil⟩
  · rename_i e o rows hu
    obtain ⟨a, cap, es, sz, rfl, _⟩ := hv.inv_list
    exact ⟨_, hs, _, by simp [Builtin.len_, ha, run_underlying hu, goInt], .lit .nil⟩
  · rename_i e id off len cap hu
    obtain ⟨b, hr, rfl, _⟩ := hv.inv_arr
    exact ⟨_, hs, _, by simp [Builtin.len_, ha, run_underlying hu, goInt], .lit .nil⟩
  · rename_i n e _ hu
    refine ⟨_, hs, _, ?_, .lit .nil⟩
    simp [Builtin.len_, ha, run_underlying hu, goInt]
  · exact hs.elim

def sminmax (mx : Bool) (u v : V) (C : V → Prop) : Prop :=
  match u, v with
  | .lit (.int k x), .lit (.int k' y) => k = k' ∧ C (.lit (.int k (if mx then max x y else min x y)))
  | _, _ => False
theorem smin_ok {u v : V} {C : V → Prop} (hs : sminmax false u v C) {x y : Value} (hu : CR c [u] [x]) (hv : CR c [v] [y]) (ats : Array TypeId) (ty : TypeId) (w : World) : ∃ r, C r ∧ ∃ z, (Builtin.min_ ats ty #[x, y]).run P w = .ok z w ∧ CR c [r] [z] := by
  unfold sminmax at hs
  split at hs
  · rename_i k a k' b
    obtain ⟨rfl, hC⟩ := hs
    obtain rfl := hu.inv_lit
    obtain rfl := hv.inv_lit
    refine ⟨_, hC, _, ?_, .lit .nil⟩
    have : (if b < a then b else a) = min a b := by omega
    simp [Builtin.min_, Builtin.min2, this]
  · exact hs.elim
theorem smax_ok {u v : V} {C : V → Prop} (hs : sminmax true u v C) {x y : Value} (hu : CR c [u] [x]) (hv : CR c [v] [y]) (ats : Array TypeId) (ty : TypeId) (w : World) : ∃ r, C r ∧ ∃ z, (Builtin.max_ ats ty #[x, y]).run P w = .ok z w ∧ CR c [r] [z] := by
  unfold sminmax at hs
  split at hs
  · rename_i k a k' b
    obtain ⟨rfl, hC⟩ := hs
    obtain rfl := hu.inv_lit
    obtain rfl := hv.inv_lit
    refine ⟨_, hC, _, ?_, .lit .nil⟩
    have : (if a < b then b else a) = max a b := by omega
    simp [Builtin.max_, Builtin.max2, this]
  · exact hs.elim

/-- what is appended, as rows -/
def newsV (P : Program) (T : TypeId) (v : V) : Option (List (List V)) :=
  match P.underlying T, v with
  | some (.slice _), .list _ rows => some rows
  | some .string, .lit (.string s) => some (bytesRows s)
  | _, _ => none
def sappend (P : Program) (q : Pa) (m : M) (t u : TypeId) (s x : V) (C : V → M → Prop) : Prop :=
  match P.underlying t, s, newsV P u x with
  | some (.slice e), .list o rows, some rows2 =>
    (match sizeT P e, zcells P e, (P.info? e).map (·.bytes) with
     | some n, some zs, some by_ => appendable m o rows = true ∧ 0 < n ∧ by_ ≤ 65536 ∧ zs.length = n ∧ (∀ r ∈ rows, r.length = n) ∧ (∀ r ∈ rows2, r.length = n) ∧ rows.length + rows2.length ≤ 1073741824 ∧
         C (.list (.st (.anon q 0)) (rows ++ rows2)) ((m.drop o).tokset q 0 true)
     | _, _, _ => False)
  | _, _, _ => False
theorem arr_map {α β : Type} (f : α → β) (a : Array α) : a.map f = (a.toList.map f).toArray := by apply Array.ext'; simp
theorem newsV_ok {u : TypeId} {v : V} {rows2 : List (List V)} (hn : newsV P u v = some rows2) (h : Rep c m w) {x : Value} (hv : CR c [v] [x]) {n : Nat} (hr : ∀ r ∈ rows2, r.length = n) : ∃ news, CR c rows2.flatten news ∧ News P w n u x rows2.length news := by
  unfold newsV at hn
  split at hn
  · rename_i e o rows hu
    injection hn with hn; subst hn
    obtain ⟨a, cap, es, sz, rfl, k1, k2, kz, k3, k4, k5, k6, kc, k7⟩ := hv.inv_list
    exact ⟨es, k1, News.book h.com hu (by simp) (flat_len k1 hr) k6 kc⟩
  · rename_i s hu
    injection hn with hn; subst hn
    obtain rfl := hv.inv_lit
    have hn1 : s.data.toList ≠ [] → n = 1 := by
      intro hne
      cases hx : s.data.toList with
      | nil => exact absurd hx hne
      | cons b l => have := hr [.lit (.int .u8 (b.toNat : Int))] (by simp [bytesRows, hx]); simpa using this.symm
    refine ⟨s.data.toList.map fun b => Value.int .u8 (b.toNat : Int), by unfold bytesRows; rw [bytes_flat]; exact lits_ok c _, ⟨⟨.string, hu, by simp⟩, ?_, ?_, ?_, ?_, ?_⟩⟩
    · rw [bytesRows_len]; rfl
    · rw [bytesRows_len]; simp [Builtin.firstCells, arr_map]
    · rw [bytesRows_len]; simp [Builtin.firstCells, arr_map]
    · rw [bytesRows_len]
      by_cases hne : s.data.toList = []
      · have : s.size = 0 := by have := congrArg List.length hne; simpa using this
        simp [hne, this]
      · rw [hn1 hne]; simp
    · intro u hu; obtain ⟨b, _, rfl⟩ := List.mem_map.1 hu; rfl
  · cases hn
theorem sappend_ok {q : Pa} {t u : TypeId} {s x : V} {C : V → M → Prop} (hs : sappend P q m t u s x C) (h : Rep c m w) (hf : FreshAt c q) {s' x' : Value} (hsv : CR c [s] [s']) (hxv : CR c [x] [x']) (ty : TypeId) :
    ∃ r m', C r m' ∧ ∃ c' z w', (Builtin.append_ #[t, u] ty #[s', x']).run P w = .ok z w' ∧ Rep c' m' w' ∧ Ext q c m w c' m' w' ∧ CR c' [r] [z] := by
  unfold sappend at hs
  split at hs
  · rename_i e o rows rows2 ht hn
    split at hs
    · rename_i n zs by_ hsz hzc hby
      obtain ⟨h1, h2, h3, hzl, h4, h5, h6, hC⟩ := hs
      obtain ⟨news, k1, k2⟩ := newsV_ok hn h hxv h5
      unfold sizeT at hsz
      cases hi : P.info? e with
      | none => simp [hi] at hsz
      | some i =>
        simp only [hi, Option.map_some, Option.some.injEq] at hsz hby
        subst hsz hby
        obtain ⟨z, hz⟩ : ∃ z, i.zero = some z := by
          unfold zcells zT at hzc
          simp only [hi, Option.bind_some] at hzc
          cases hq : i.zero with
          | none => simp [hq] at hzc
          | some z => exact ⟨z, rfl⟩
        have hzs : z.cells.size = i.size := by
          unfold zcells zT at hzc
          simp only [hi, Option.bind_some, hz] at hzc
          split at hzc
          · injection hzc with hzc; rw [← hzl, ← hzc]; simp
          · cases hzc
        have hbig : (rows.length + rows2.length) * i.bytes ≤ 140737488355328 := by
          have := Nat.mul_le_mul h6 h3; omega
        obtain ⟨v', w', c', hrun, g1, g2, g3⟩ := h.append (P := P) hf hsv h1 t u ty e i z ht hi hz hzs h2 h4 k1 h5 k2 hbig (by simp only [maxLen]; omega)
        exact ⟨_, _, hC, c', v', w', hrun, g1, g2, g3⟩
    · exact hs.elim
  · exact hs.elim
end
end Go.Proofs.YtolhahlnccekcaaDoor.Abs
