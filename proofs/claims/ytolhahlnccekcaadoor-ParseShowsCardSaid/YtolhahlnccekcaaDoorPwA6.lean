/-
  Own helper theorems of no one function: append, seen from above, whole.
-/
import Derived.Test.YtolhahlnccekcaaDoorPwA4
namespace Go.Proofs.YtolhahlnccekcaaDoor.Abs
open Go.RowKit

section
variable {P : Program} {w : World} {c : Conc} {m : M}

theorem FreshAt.stamp {c : Conc} {id q : Pa} {i : Info} (h : FreshAt c id) (hne : id ≠ q) : FreshAt (c.stamp q i) id := by
  refine ⟨h.1, fun j => ?_, fun off v => ?_⟩
  · have : (c.stamp q i).κ (.anon id j) = if Stamp.anon id j = .anon q 0 then some i else c.κ (.anon id j) := rfl
    rw [this, if_neg (by intro e; injection e with e; exact hne e)]; exact h.2.1 j
  · have : (c.stamp q i).κ (.cell id off v) = if Stamp.cell id off v = .anon q 0 then some i else c.κ (.cell id off v) := rfl
    rw [this, if_neg (by intro e; cases e)]; exact h.2.2 off v
theorem Blank.stamp {c c0 : Conc} {m : M} {id q : Pa} {i : Info} (h : Blank c m id) (hne : id ≠ q) (h0 : c0.κ = c.κ) : Blank (c0.stamp q i) (m.tokset q 0 true) id := by
  have hκ : ∀ s, (c0.stamp q i).κ s = if s = .anon q 0 then some i else c.κ s := by intro s; rw [← h0]; rfl
  refine ⟨h.blk, fun j => ?_, fun off v => ?_, h.ver, fun j => ?_⟩
  · rw [hκ, if_neg (by intro e; injection e with e1; exact hne e1)]; exact h.anon j
  · rw [hκ, if_neg (by intro e; cases e)]; exact h.cell off v
  · show (if id = q ∧ j = 0 then true else m.tok id j) = false
    rw [if_neg (by rintro ⟨e, _⟩; exact hne e)]; exact h.tok j
theorem sizes_app {rows rows2 : List (List V)} {size : Nat} (s1 : ∀ r ∈ rows, r.length = size) (s2 : ∀ r ∈ rows2, r.length = size) : ∀ r ∈ rows ++ rows2, r.length = size := by
  intro r hr
  rcases List.mem_append.1 hr with hr | hr
  · exact s1 r hr
  · exact s2 r hr
theorem one_app {xs ys : List Value} (o1 : ∀ u ∈ xs, u.oneCell' = true) (o2 : ∀ u ∈ ys, u.oneCell' = true) : ∀ u ∈ xs ++ ys, u.oneCell' = true := by
  intro r hr
  rcases List.mem_append.1 hr with hr | hr
  · exact o1 r hr
  · exact o2 r hr
theorem run_app_zero (t u ty e : TypeId) (i : TypeInfo) (ht : P.underlying t = some (.slice e)) (hi : P.info? e = some i) {a : Option Addr} {sLen sCap : Nat} {x : Value} (hn : News P w i.size u x 0 []) (hroom : sLen ≤ sCap) :
    (Builtin.append_ #[t, u] ty #[.slice a sLen sCap, x]).run P w = .ok (.slice a sLen sCap) w := by
  obtain ⟨d, hu, hd⟩ := hn.ty
  have hl := hn.len
  have hc := hn.cells
  cases a with
  | none => simp [Builtin.append_, run_underlying ht, run_underlying hu, sizeOf, typeInfo, hi, hl, hroom, hc]
  | some a => simp [Builtin.append_, run_underlying ht, run_underlying hu, sizeOf, typeInfo, hi, hl, hroom, hc, storeCells]

theorem lies_cells {G : GG} (hC : Com w G) {a : Option Addr} {es : List Value} {size len cap : Nat} (hl : es.length = len * size) (h : Lies G a es) : (Builtin.firstCells size len (.slice a len cap)).run P w = .ok es.toArray w := by
  rcases Nat.eq_zero_or_pos es.length with h0 | h0
  · have he : es = [] := List.eq_nil_of_length_eq_zero h0
    subst he
    cases a with
    | none => exact run_firstCells_none w size len len cap
    | some b => exact run_firstCells_some w size len b len cap [] hl (by simp)
  · obtain ⟨b, off, rfl, hG⟩ := h h0
    exact run_firstCells_some w size len _ len cap es hl (fun j v hv => by rw [addr_add]; exact hC _ _ _ (hG j v hv))
theorem News.book {G : GG} (hC : Com w G) {a : Option Addr} {es : List Value} {size n cap : Nat} {u : TypeId} {d : TypeDesc} (hu : P.underlying u = some d) (hd : ∀ k, d ≠ .int k) (hl : es.length = n * size) (h : Lies G a es) (h1 : ∀ u ∈ es, u.oneCell' = true) :
    News P w size u (.slice a n cap) n es :=
  ⟨⟨d, hu, hd⟩, rfl, lies_cells hC hl h, lies_cells (w := w.drew) hC.drew hl h, hl, h1⟩

/-- all that is in the book is of one cell -/
theorem flat_len {rows : List (List V)} {sz : Nat} {es : List Value} (h : CR c rows.flatten es) (hs : ∀ r ∈ rows, r.length = sz) : es.length = rows.length * sz := by
  rw [h.len, flatten_len hs]

theorem grow_done {q : Pa} (hf : FreshAt c q) {m1 : M} (h : Rep c m1 w) (hE : Ext q c m w c m1 w) {rows rows2 : List (List V)} {es news rest : List Value} {e : TypeId} {size ncap : Nat} (k1 : CR c rows.flatten es) (k2 : CR c rows2.flatten news)
    (s1 : ∀ r ∈ rows, r.length = size) (s2 : ∀ r ∈ rows2, r.length = size) (hz : 0 < size) (hpos : 0 < rows.length + rows2.length) (hcap : rows.length + rows2.length ≤ ncap) (hmax : ncap ≤ maxLen)
    (hrest : (es ++ news ++ rest).length = ncap * size) (o1 : ∀ u ∈ es, u.oneCell' = true) (o2 : ∀ u ∈ news, u.oneCell' = true) :
    ∃ c', Rep c' (m1.tokset q 0 true) (w.drew.alloc (.cells (es ++ news ++ rest).toArray e)) ∧ Ext q c m w c' (m1.tokset q 0 true) (w.drew.alloc (.cells (es ++ news ++ rest).toArray e)) ∧
      CR c' [.list (.st (.anon q 0)) (rows ++ rows2)] [.slice (some ⟨w.heap.size, 0, none⟩) (rows.length + rows2.length) ncap] := by
  have hOut : Out c.G w.heap.size := h.com.out (Nat.le_refl _)
  have hno : ¬ Owned c m1 w.heap.size := fun ho => by have := h.own_lt ho; omega
  have hg : w.grownBy (w.drew.alloc (.cells (es ++ news ++ rest).toArray e)) none := galloc (gdrew (grefl w none)) _
  have hB : Blk (w.drew.alloc (.cells (es ++ news ++ rest).toArray e)) w.heap.size e (es ++ news ++ rest).toArray := Blk.new w.drew e _
  have h1 := (h.grown hg).laid (cs := es ++ news) hOut hno (fun i u hu => by
    rw [hB.cell i]
    have hi : i < (es ++ news).length := (List.getElem?_eq_some_iff.1 hu).1
    simp only [List.getElem?_toArray]
    rw [List.getElem?_append_left hi]; exact hu)
  have hlen : (es ++ news).length = (rows.length + rows2.length) * size := by rw [List.length_append, flat_len k1 s1, flat_len k2 s2, Nat.add_mul]
  have hno1 : ¬ Owned (c.laid w.heap.size (es ++ news)) m1 w.heap.size := hno
  have hst := h1.stamp (q := q) hf (.arr w.heap.size ncap size (rows.length + rows2.length)) (fun b cap sz len he => by
    injection he with e1 e2 e3 e4
    subst e1 e2 e3 e4
    refine ⟨fun hl => by have := (h.lit _ hl).2.1; omega, hno1, ⟨_, _, hB, by simpa using hrest⟩, fun o ho => ?_, hcap, hz⟩
    show lay c.G w.heap.size (es ++ news) w.heap.size o = none
    rw [lay_at]
    exact List.getElem?_eq_none (by omega))
  refine ⟨_, hst.1, ?_, ?_⟩
  · have hE1 := h.ext_laid q (cs := es ++ news) (Nat.le_refl _) (Nat.le_refl _) _ hg
    refine ⟨(hE.le.trans hE1.le).trans hst.2, rfl, rfl, rfl, hg.size, fun b hb _ _ => hg.block b hb (by simp), fun b hb ho o => ?_, fun b hb ho => ?_, fun id hid hfr => ?_, fun id hid hbk => (hE.keep id hid hbk).stamp (by rintro rfl; exact hid (List.suffix_refl _)) rfl, fun _ _ x => x⟩
    · show lay c.G w.heap.size (es ++ news) b o = c.G b o
      unfold lay; rw [if_neg (by omega)]
    · rcases ho.stamp with ho | ⟨cap, sz, len, he⟩
      · exact hE.own b hb ho
      · injection he with e1; omega
    · have hne : id ≠ q := by rintro rfl; exact hid (List.suffix_refl _)
      exact FreshAt.stamp hfr hne
  · have hle : Le c ((c.laid w.heap.size (es ++ news)).stamp q (.arr w.heap.size ncap size (rows.length + rows2.length))) := (Le.laid hOut).trans hst.2
    have hcr : CR ((c.laid w.heap.size (es ++ news)).stamp q (.arr w.heap.size ncap size (rows.length + rows2.length))) (rows ++ rows2).flatten (es ++ news) := by
      rw [List.flatten_append]; exact (k1.mono hle).append (k2.mono hle)
    have := CR.list (o := .st (.anon q 0)) (a := some ⟨w.heap.size, 0, none⟩) (cap := ncap) hcr (sizes_app s1 s2) hz (by simpa using hcap) hmax (fun _ => ⟨_, _, rfl⟩)
      (fun _ => ⟨w.heap.size, 0, rfl, fun i u hu => by rw [Nat.zero_add]; show lay c.G w.heap.size (es ++ news) w.heap.size i = some u; rw [lay_at]; exact hu⟩) (one_app o1 o2)
      (.inr ⟨w.heap.size, by show (if Stamp.anon q 0 = .anon q 0 then some _ else _) = _; rw [if_pos rfl]; simp, rfl, by simpa using hpos⟩) .nil
    simpa using this

theorem room_done {q : Pa} (hf : FreshAt c q) {m1 : M} (h : Rep c m1 w) (hE : Ext q c m w c m1 w) {rows rows2 : List (List V)} {es news : List Value} {b size cap t' : Nat} {cur : Array Value} (k1 : CR c rows.flatten es) (k2 : CR c rows2.flatten news)
    (s1 : ∀ r ∈ rows, r.length = size) (s2 : ∀ r ∈ rows2, r.length = size) (hz : 0 < size) (hpos : 0 < rows.length) (hcap : rows.length + rows2.length ≤ cap) (hmax : cap ≤ maxLen)
    (hno : ¬ Owned c m1 b) (hO : Owned c m b) (hnl : ¬ c.lit b) (hB : Blk w b t' cur) (hcur : cur.size = cap * size) (hfree : ∀ o, rows.length * size ≤ o → c.G b o = none) (hlies : ∀ i u, es[i]? = some u → c.G b (0 + i) = some u) (o1 : ∀ u ∈ es, u.oneCell' = true) (o2 : ∀ u ∈ news, u.oneCell' = true) :
    ∃ c', Rep c' (m1.tokset q 0 true) (w.setRow b (cur.toList.take (rows.length * size) ++ news ++ cur.toList.drop (rows.length * size + news.length)).toArray) ∧
      Ext q c m w c' (m1.tokset q 0 true) (w.setRow b (cur.toList.take (rows.length * size) ++ news ++ cur.toList.drop (rows.length * size + news.length)).toArray) ∧
      CR c' [.list (.st (.anon q 0)) (rows ++ rows2)] [.slice (some ⟨b, 0, none⟩) (rows.length + rows2.length) cap] := by
  obtain ⟨cur', hcur'⟩ : ∃ cur', cur' = (cur.toList.take (rows.length * size) ++ news ++ cur.toList.drop (rows.length * size + news.length)).toArray := ⟨_, rfl⟩
  rw [← hcur']
  have l1 := flat_len k1 s1
  have l2 := flat_len k2 s2
  have hle2 : rows.length * size + rows2.length * size ≤ cap * size := by rw [← Nat.add_mul]; exact Nat.mul_le_mul_right _ hcap
  have hsz' : cur'.size = cap * size := by rw [hcur']; simp; omega
  have hB' : Blk (w.setRow b cur') b t' cur' := setRow_heap w b cur cur' t' (0, 0) hB
  have hg : w.grownBy (w.setRow b cur') (some b) := ⟨rfl, rfl, rfl, by simp, fun k _ hk => setRow_other w b k _ (fun e => hk (by rw [e]))⟩
  -- what the book gets
  obtain ⟨G', hG'⟩ : ∃ G' : GG, G' = fun b' o => if b' = b ∧ rows.length * size ≤ o then news[o - rows.length * size]? else c.G b' o := ⟨_, rfl⟩
  have g1 : ∀ b' o v, c.G b' o = some v → G' b' o = some v := by
    intro b' o v hv
    rw [hG']
    show (if _ then _ else _) = _
    rw [if_neg]
    · exact hv
    · rintro ⟨rfl, ho⟩; rw [hfree o ho] at hv; cases hv
  have g2 : ∀ b', b' ≠ b → ∀ o, G' b' o = c.G b' o := by
    intro b' hb o; rw [hG']; show (if _ then _ else _) = _; rw [if_neg (by rintro ⟨e, _⟩; exact hb e)]
  have g3 : ∀ o, (rows.length + rows2.length) * size ≤ o → G' b o = none := by
    intro o ho
    rw [hG']
    show (if b = b ∧ rows.length * size ≤ o then news[o - rows.length * size]? else _) = none
    rw [Nat.add_mul] at ho
    rw [if_pos ⟨rfl, by omega⟩]
    exact List.getElem?_eq_none (by omega)
  have hat : ∀ o, o < rows.length * size → cur'[o]? = cur[o]? := by
    intro o ho
    rw [hcur']
    simp only [List.getElem?_toArray, List.append_assoc]
    rw [List.getElem?_append_left (by simp; omega), List.getElem?_take_of_lt ho]
    simp
  have hat2 : ∀ j u, news[j]? = some u → cur'[rows.length * size + j]? = some u := by
    intro j u hu
    have hj : j < news.length := (List.getElem?_eq_some_iff.1 hu).1
    have htl : (cur.toList.take (rows.length * size)).length = rows.length * size := by simp; omega
    rw [hcur']
    simp only [List.getElem?_toArray, List.append_assoc]
    rw [List.getElem?_append_right (by omega), htl, show rows.length * size + j - rows.length * size = j by omega, List.getElem?_append_left hj]
    exact hu
  have g4 : Com (w.setRow b cur') G' := by
    intro b' o v hv
    by_cases hb : b' = b
    · subst hb
      rw [hB'.cell o]
      by_cases ho : rows.length * size ≤ o
      · have hv' : news[o - rows.length * size]? = some v := by
          have hv2 := hv
          rw [hG'] at hv2
          have hv3 : (if b' = b' ∧ rows.length * size ≤ o then news[o - rows.length * size]? else c.G b' o) = some v := hv2
          rw [if_pos ⟨rfl, ho⟩] at hv3; exact hv3
        have := hat2 _ _ hv'
        rw [show rows.length * size + (o - rows.length * size) = o by omega] at this
        exact this
      · have hv' : c.G b' o = some v := by
          have hv2 := hv
          rw [hG'] at hv2
          have hv3 : (if b' = b' ∧ rows.length * size ≤ o then news[o - rows.length * size]? else c.G b' o) = some v := hv2
          rw [if_neg (by rintro ⟨_, h⟩; exact ho h)] at hv3; exact hv3
        rw [hat o (by omega)]
        have := h.com b' o v hv'
        rw [hB.cell o] at this; exact this
    · rw [g2 b' hb o] at hv
      exact hg.cell (h.com b' o v hv) (by simpa using hb)
  have h1 := h.free hno hg g1 g2 g4
  have hno1 : ¬ Owned { c with G := G' } m1 b := hno
  have hst := h1.stamp (q := q) hf (.arr b cap size (rows.length + rows2.length)) (fun b2 cap2 sz2 len2 he => by
    injection he with e1 e2 e3 e4
    subst e1 e2 e3 e4
    exact ⟨fun hl => hnl hl, hno1, ⟨_, _, hB', hsz'⟩, g3, hcap, hz⟩)
  have hle : Le c (({ c with G := G' } : Conc).stamp q (.arr b cap size (rows.length + rows2.length))) := (show Le c { c with G := G' } from ⟨rfl, fun _ x => x, fun _ _ x => x, fun _ _ x => x, g1⟩).trans hst.2
  refine ⟨_, hst.1, ?_, ?_⟩
  · refine ⟨hle, rfl, rfl, rfl, hg.size, fun b' hb' ho _ => hg.block b' hb' (fun e => ho (by injection e with e; rw [e]; exact hO)), fun b' hb' ho o => g2 b' (fun e => ho (by rw [e]; exact hO)) o, fun b' hb' ho => ?_, fun id hid hfr => ?_, fun id hid hbk => (hE.keep id hid hbk).stamp (by rintro rfl; exact hid (List.suffix_refl _)) rfl, fun _ _ x => x⟩
    · rcases ho.stamp with ho | ⟨cap2, sz2, len2, he⟩
      · exact hE.own b' hb' ho
      · injection he with e1; rw [← e1]; exact hO
    · have hne : id ≠ q := by rintro rfl; exact hid (List.suffix_refl _)
      exact FreshAt.stamp hfr hne
  · have hcr : CR (({ c with G := G' } : Conc).stamp q (.arr b cap size (rows.length + rows2.length))) (rows ++ rows2).flatten (es ++ news) := by
      rw [List.flatten_append]; exact (k1.mono hle).append (k2.mono hle)
    have := CR.list (o := .st (.anon q 0)) (a := some ⟨b, 0, none⟩) (cap := cap) hcr (sizes_app s1 s2) hz (by simpa using hcap) hmax (fun _ => ⟨_, _, rfl⟩)
      (fun _ => ⟨b, 0, rfl, fun i u hu => by
        show G' b (0 + i) = some u
        rw [Nat.zero_add]
        by_cases hi : i < es.length
        · rw [List.getElem?_append_left hi] at hu
          have := g1 b i u (by have := hlies i u hu; rwa [Nat.zero_add] at this)
          exact this
        · rw [List.getElem?_append_right (by omega)] at hu
          rw [hG']
          show (if b = b ∧ rows.length * size ≤ i then news[i - rows.length * size]? else _) = _
          rw [if_pos ⟨rfl, by omega⟩, ← l1]; exact hu⟩) (one_app o1 o2)
      (.inr ⟨b, by show (if Stamp.anon q 0 = .anon q 0 then some _ else _) = _; rw [if_pos rfl]; simp, rfl, by simp; omega⟩) .nil
    simpa using this

def appendable (m : M) (o : Own) (rows : List (List V)) : Bool :=
  match o with
  | .exact => true
  | .st s => rows.isEmpty || liveB m s
  | _ => false

theorem Rep.append (h : Rep c m w) {q : Pa} (hf : FreshAt c q) {o : Own} {rows : List (List V)} {s : Value} (hs : CR c [.list o rows] [s]) (happ : appendable m o rows = true) (t u ty e : TypeId) (i : TypeInfo) (z : Value) (ht : P.underlying t = some (.slice e)) (hi : P.info? e = some i)
    (hz : i.zero = some z) (hzs : z.cells.size = i.size) (hsz : 0 < i.size) (s1 : ∀ r ∈ rows, r.length = i.size) {rows2 : List (List V)} {news : List Value} {x : Value} (k2 : CR c rows2.flatten news) (s2 : ∀ r ∈ rows2, r.length = i.size) (hn : News P w i.size u x rows2.length news)
    (hb : (rows.length + rows2.length) * i.bytes ≤ 140737488355328) (hm : rows.length + rows2.length ≤ maxLen) :
    ∃ v' w' c', (Builtin.append_ #[t, u] ty #[s, x]).run P w = .ok v' w' ∧ Rep c' ((m.drop o).tokset q 0 true) w' ∧ Ext q c m w c' ((m.drop o).tokset q 0 true) w' ∧ CR c' [.list (.st (.anon q 0)) (rows ++ rows2)] [v'] := by
  obtain ⟨a, cap, es, sz, rfl, k1, k2', kz, k3, k4, k5, k6, kc, k7⟩ := hs.inv_list
  obtain ⟨hD, hDE, hDl⟩ := h.dropped o
  have hm' : rows.length + rows2.length ≤ 9223372036854775807 := by simp only [maxLen] at hm; omega
  have l1 := flat_len k1 s1
  -- grown
  have grown : cap < rows.length + rows2.length → ∃ v' w' c', (Builtin.append_ #[t, u] ty #[.slice a rows.length cap, x]).run P w = .ok v' w' ∧ Rep c' ((m.drop o).tokset q 0 true) w' ∧ Ext q c m w c' ((m.drop o).tokset q 0 true) w' ∧ CR c' [.list (.st (.anon q 0)) (rows ++ rows2)] [v'] := by
    intro hlt
    have hrun := run_app_full (P := P) w t u ty e i z ht hi hz (a := a) (sLen := rows.length) (sCap := cap) (lies_cells (w := w.drew) h.com.drew l1 k6) hn hlt hb hm'
    have hge := grownCap_ge w (rows.length + rows2.length) cap e
    have hcm := grownCap_le_maxLen w (rows.length + rows2.length) cap e hm
    have hl : (es ++ news ++ (Builtin.zeroCells z.cells (grownCap w (rows.length + rows2.length) cap e - (rows.length + rows2.length))).toList).length = grownCap w (rows.length + rows2.length) cap e * i.size := by
      have := hn.size
      simp only [List.length_append, Array.length_toList, size_zeroCells, hzs, l1, this]
      rw [← Nat.add_mul, ← Nat.add_mul]
      congr 1; omega
    obtain ⟨c', h1, h2, h3⟩ := grow_done (e := e) hf hD (hDE q) k1 k2 s1 s2 hsz (by omega) hge hcm hl kc hn.one
    have harr : (es ++ news ++ (Builtin.zeroCells z.cells (grownCap w (rows.length + rows2.length) cap e - (rows.length + rows2.length))).toList).toArray = es.toArray ++ news.toArray ++ Builtin.zeroCells z.cells (grownCap w (rows.length + rows2.length) cap e - (rows.length + rows2.length)) := by
      apply Array.ext'
      simp [List.append_assoc]
    rw [harr] at h1 h2
    exact ⟨_, _, c', hrun, h1, h2, h3⟩
  -- nothing is appended, to a slice whose capacity is its length
  have still : cap = rows.length → rows2.length = 0 → ∃ v' w' c', (Builtin.append_ #[t, u] ty #[.slice a rows.length cap, x]).run P w = .ok v' w' ∧ Rep c' ((m.drop o).tokset q 0 true) w' ∧ Ext q c m w c' ((m.drop o).tokset q 0 true) w' ∧ CR c' [.list (.st (.anon q 0)) (rows ++ rows2)] [v'] := by
    intro hcl h0
    have hr2 : rows2 = [] := List.eq_nil_of_length_eq_zero h0
    subst hr2
    have hne : news = [] := k2.inv_nil
    subst hne
    have hrun := run_app_zero (P := P) (w := w) t u ty e i ht hi (a := a) (sLen := rows.length) (sCap := cap) hn k3
    have hst := hD.stamp (q := q) hf .full (fun b cap sz len he => by cases he)
    refine ⟨_, _, _, hrun, hst.1, ?_, ?_⟩
    · refine ⟨hst.2, rfl, rfl, rfl, Nat.le_refl _, fun _ _ _ _ => rfl, fun _ _ _ _ => rfl, fun b hb' ho => ?_, fun id hid hfr => ?_, fun id hid hbk => ((hDE q).keep id hid hbk).stamp (by rintro rfl; exact hid (List.suffix_refl _)) rfl, fun _ _ x => x⟩
      · rcases ho.stamp with ho | ⟨_, _, _, he⟩
        · exact (hDE q).own b hb' ho
        · cases he
      · have hne : id ≠ q := by rintro rfl; exact hid (List.suffix_refl _)
        exact FreshAt.stamp hfr hne
    · rw [List.append_nil]
      exact .list (k1.mono hst.2) k2' kz k3 k4 k5 (k6.mono hst.2.G) kc (.inl ⟨by show (if Stamp.anon q 0 = .anon q 0 then some _ else _) = _; rw [if_pos rfl], hcl⟩) .nil
  have full : cap = rows.length → ∃ v' w' c', (Builtin.append_ #[t, u] ty #[.slice a rows.length cap, x]).run P w = .ok v' w' ∧ Rep c' ((m.drop o).tokset q 0 true) w' ∧ Ext q c m w c' ((m.drop o).tokset q 0 true) w' ∧ CR c' [.list (.st (.anon q 0)) (rows ++ rows2)] [v'] := by
    intro hcl
    rcases Nat.eq_zero_or_pos rows2.length with h0 | h0
    · exact still hcl h0
    · exact grown (by omega)
  cases o with
  | none => cases happ
  | self => cases happ
  | exact => exact full k7.1
  | st st =>
    rcases k7 with ⟨_, hcl⟩ | ⟨b, hk, ha, hpos⟩
    · exact full hcl
    · have hlive : liveB m st = true := by
        simp only [appendable, Bool.or_eq_true, List.isEmpty_iff] at happ
        rcases happ with e | e
        · subst e; simp at hpos
        · exact e
      obtain ⟨⟨cur, t', hB, hcs⟩, hfree, hnob, hlc, _⟩ := h.own st b cap sz rows.length hlive hk
      have hsz2 : sz = i.size := by
        obtain ⟨r, hr⟩ : ∃ r, r ∈ rows := by cases rows with | nil => simp at hpos | cons r _ => exact ⟨r, by simp⟩
        rw [← k2' r hr, s1 r hr]
      subst hsz2
      by_cases hroom : rows.length + rows2.length ≤ cap
      · subst ha
        have hfit : rows.length * i.size + news.length ≤ cur.size := by rw [hn.size, hcs, ← Nat.add_mul]; exact Nat.mul_le_mul_right _ hroom
        have hrun := run_app_room (P := P) w t u ty e i ht hi hB hn hroom hfit
        have hno : ¬ Owned c (m.drop (.st st)) b := by
          rintro (⟨id, hid, hr⟩ | ⟨s', cap', sz', len', hl', hk'⟩)
          · have hid' : m.blk id ≠ none := by
              intro hx
              obtain ⟨vs, hv⟩ : ∃ vs, (m.drop (.st st)).blk id = some vs := by cases hx2 : (m.drop (.st st)).blk id with | none => exact absurd hx2 hid | some vs => exact ⟨vs, rfl⟩
              obtain ⟨b2, _, _, hr2, hB2, _⟩ := hD.blk id vs hv
              cases st with
              | anon i' j' => rw [show (m.drop (.st (.anon i' j'))).blk id = m.blk id from rfl, hx] at hv; cases hv
              | cell i' o' v' =>
                have hv' : (m.unself i' o').blk id = some vs := hv
                unfold M.unself at hv'
                split at hv'
                · split at hv'
                  · rename_i xs hxs _ _ _
                    have hv2 : (if id = i' then _ else m.blk id) = some vs := hv'
                    split at hv2
                    · rename_i e2; subst e2; rw [hx] at hxs; cases hxs
                    · rw [hx] at hv2; cases hv2
                  · rw [hx] at hv'; cases hv'
                · rw [hx] at hv'; cases hv'
            exact hnob id hid' hr
          · obtain ⟨hl1, hl2⟩ := hDl s' hl'
            exact hl2 (by rw [h.ownInj st s' b _ _ _ _ _ _ hlive hl1 hk hk'])
        obtain ⟨c', h1, h2, h3⟩ := room_done hf hD (hDE q) k1 k2 s1 s2 hsz hpos hroom k4 hno (.inr ⟨st, _, _, _, hlive, hk⟩) (fun hl => (h.lit b hl).2.2 (.inr ⟨st, _, _, _, hlive, hk⟩)) hB hcs hfree (by
          intro j u hu
          have hl : 0 < es.length := by have := (List.getElem?_eq_some_iff.1 hu).1; omega
          obtain ⟨b2, o2, he, hG⟩ := k6 hl
          injection he with he; injection he with e1 e2; subst e1 e2
          exact hG j u hu) kc hn.one
        exact ⟨_, _, c', hrun, h1, h2, h3⟩
      · exact grown (by omega)
end
end Go.Proofs.YtolhahlnccekcaaDoor.Abs
namespace Go.Proofs.YtolhahlnccekcaaDoor.Abs
open Go.RowKit

abbrev Env := Nat → V
def upd (E : Env) (d : Nat) (v : V) : Env := fun t => if t = d then v else E t
def putE (d : Option Nat) (v : V) (E : Env) : Env := match d with | some d => upd E d v | none => E

/-- a value of one cell, or of none, as it is laid down in the text -/
def of1 : Value → V
  | .slice .none 0 0 => .list .exact []
  | v => .lit v
def ofV : Value → V
  | .agg cs => if cs.toList.all (fun u => u.oneCell') then .agg (cs.toList.map of1) else .lit (.agg cs)
  | v => of1 v
def ev (m : M) (E : Env) : Operand → V
  | .tmp t => E t
  | .const v => ofV v
  | .global g => m.gl g
  | .func f => .fn (.func f) [] []

structure EnvOk (c : Conc) (E : Env) (a : Act) (N : Nat) : Prop where
  size : N ≤ a.tmps.size
  at_ : ∀ t, CR c [E t] [a.tmps.getD t undef]

section
variable {c c' : Conc} {m m' : M} {w w' : World} {E : Env} {a : Act} {N : Nat}

theorem of1_ok (c : Conc) (v : Value) : CR c [of1 v] [v] := by
  unfold of1
  split
  · exact .list (es := []) (sz := 1) .nil (by simp) (by decide) (Nat.le_refl _) (by decide) (by simp) (fun h => by simp at h) (by simp) ⟨rfl, fun _ h => by cases h⟩ .nil
  · exact .lit .nil
theorem ofs_ok (c : Conc) (vs : List Value) : CR c (vs.map of1) vs := by
  induction vs with
  | nil => exact .nil
  | cons v vs ih => exact (of1_ok c v).cons ih
theorem ofV_ok (c : Conc) (v : Value) : CR c [ofV v] [v] := by
  unfold ofV
  split
  · rename_i cs
    split
    · rename_i h
      have := CR.agg (us := cs.toList.map of1) (xs := cs.toList) (ofs_ok c cs.toList) (List.all_eq_true.1 h) .nil
      simpa using this
    · exact .lit .nil
  · exact of1_ok c v
theorem EnvOk.mono (hl : Le c c') (h : EnvOk c E a N) : EnvOk c' E a N := ⟨h.size, fun t => (h.at_ t).mono hl⟩
theorem EnvOk.put (h : EnvOk c E a N) {v : V} {x : Value} (hx : CR c [v] [x]) {d : Option Nat} (hd : ∀ i, d = some i → i < N) : EnvOk c (putE d v E) (a.put d x) N := by
  cases d with
  | none => exact h
  | some d =>
    have hdn := hd d rfl
    have hs := h.size
    refine ⟨by simpa [Act.put] using hs, fun t => ?_⟩
    show CR c [if t = d then v else E t] [(a.tmps.setIfInBounds d x).getD t undef]
    by_cases e : t = d
    · subst e
      rw [if_pos rfl]
      have : (a.tmps.setIfInBounds t x).getD t undef = x := by simp [show t < a.tmps.size by omega]
      rw [this]; exact hx
    · rw [if_neg e]
      have : (a.tmps.setIfInBounds d x).getD t undef = a.tmps.getD t undef := by simp [Array.getElem?_setIfInBounds_ne (fun e2 => e e2.symm)]
      rw [this]; exact h.at_ t
theorem EnvOk.ev (h : EnvOk c E a N) (hR : Rep c m w) (x : Operand) : CR c [ev m E x] [a.eval x] := by
  cases x with
  | tmp t => exact h.at_ t
  | const v => exact ofV_ok c v
  | global g => exact hR.gl g
  | func f => exact .fn .nil .nil .nil

/-- the cells of a value -/
def V.cells : V → List V
  | .agg vs => vs
  | v => [v]
/-- a value that is one cell, to be seen from above -/
def V.one : V → Bool
  | .lit v => v.oneCell'
  | .ptr _ _ | .list _ _ | .eptr _ _ _ | .arr _ _ _ _ | .fn _ _ _ => true
  | _ => false
def V.cellsOk : V → Bool
  | .agg _ => true
  | v => v.one
theorem V.one_ok {v : V} {x : Value} (h : CR c [v] [x]) (ho : v.one = true) : x.oneCell' = true := by
  cases h <;> first | exact ho | rfl | cases ho
theorem cells_ok {v : V} {x : Value} (h : CR c [v] [x]) (ho : v.cellsOk = true) : CR c v.cells x.cells.toList ∧ ∀ u ∈ x.cells.toList, u.oneCell' = true := by
  cases v with
  | agg vs =>
    obtain ⟨xs, rfl, h1, h2⟩ := h.inv_agg
    exact ⟨by simpa [Value.cells, V.cells] using h1, by simpa [Value.cells] using h2⟩
  | top => cases ho
  | tup vs => cases ho
  | _ =>
    have h1 := V.one_ok h ho
    have hc : x.cells.toList = [x] := by cases x <;> first | rfl | cases h1
    rw [hc]
    exact ⟨h, by simpa using h1⟩

/-! ### operators -/
/-- an effect-free computation's answer -/
def pureS {α : Type} (P : Program) : Sem α → Option α
  | .pure a => some a
  | .program k => pureS P (k P)
  | _ => none
theorem pureS_run {α : Type} {P : Program} {s : Sem α} {r : α} (h : pureS P s = some r) (w : World) : s.run P w = .ok r w := by
  induction s with
  | pure a => simp only [pureS, Option.some.injEq] at h; subst h; rfl
  | program k ih => exact ih P h
  | _ => cases h

/-- two operands' answer: C is what must be of it -/
def sbin (P : Program) (op : BinOp) (T : TypeId) (x y : Operand) (u v : V) (C : V → Prop) : Prop :=
  match op, u, v with
  | .add, .lit (.int k a), .lit (.int k' b) => k = k' ∧ C (.lit (.int k (k.wrap (a + b))))
  | .sub, .lit (.int k a), .lit (.int k' b) => k = k' ∧ C (.lit (.int k (k.wrap (a - b))))
  | .mul, .lit (.int k a), .lit (.int k' b) => k = k' ∧ C (.lit (.int k (k.wrap (a * b))))
  | .quo, .lit (.int k a), .lit (.int k' b) => k = k' ∧ b ≠ 0 ∧ C (.lit (.int k (k.wrap (a.tdiv b))))
  | .rem, .lit (.int k a), .lit (.int k' b) => k = k' ∧ b ≠ 0 ∧ C (.lit (.int k (a.tmod b)))
  | .shl, .lit (.int k a), .lit (.int _ b) => 0 ≤ b ∧ C (.lit (.int k (k.wrap (a * 2 ^ (min b.toNat k.bits)))))
  | .shr, .lit (.int k a), .lit (.int _ b) => 0 ≤ b ∧ C (.lit (.int k (a.fdiv (2 ^ (min b.toNat k.bits)))))
  | .and, .lit (.int k a), .lit (.int k' b) => k = k' ∧ C (.lit (.int k (k.wrap (BitVec.ofInt k.bits a &&& BitVec.ofInt k.bits b).toNat)))
  | .or, .lit (.int k a), .lit (.int k' b) => k = k' ∧ C (.lit (.int k (k.wrap (BitVec.ofInt k.bits a ||| BitVec.ofInt k.bits b).toNat)))
  | .xor, .lit (.int k a), .lit (.int k' b) => k = k' ∧ C (.lit (.int k (k.wrap (BitVec.ofInt k.bits a ^^^ BitVec.ofInt k.bits b).toNat)))
  | .andNot, .lit (.int k a), .lit (.int k' b) => k = k' ∧ C (.lit (.int k (k.wrap (BitVec.ofInt k.bits a &&& ~~~ BitVec.ofInt k.bits b).toNat)))
  | .eql, .lit (.int k a), .lit (.int k' b) => k = k' ∧ C (.lit (.bool (a == b)))
  | .neq, .lit (.int k a), .lit (.int k' b) => k = k' ∧ C (.lit (.bool (a != b)))
  | .lss, .lit (.int k a), .lit (.int k' b) => k = k' ∧ C (.lit (.bool (decide (a < b))))
  | .leq, .lit (.int k a), .lit (.int k' b) => k = k' ∧ C (.lit (.bool (decide (a ≤ b))))
  | .gtr, .lit (.int k a), .lit (.int k' b) => k = k' ∧ C (.lit (.bool (decide (a > b))))
  | .geq, .lit (.int k a), .lit (.int k' b) => k = k' ∧ C (.lit (.bool (decide (a ≥ b))))
  | .add, .lit (.string a), .lit (.string b) => a.size + b.size ≤ 4611686018427387904 ∧ C (.lit (.string (a ++ b)))
  | .eql, .lit (.string a), .lit (.string b) => C (.lit (.bool (a.toList == b.toList)))
  | .neq, .lit (.string a), .lit (.string b) => C (.lit (.bool (!(a.toList == b.toList))))
  | op, .lit a, .lit b => ∃ r, pureS P (do eqGuard op T x y a b; binOp op T a b) = some r ∧ C (.lit r)
  | op, .agg us, .agg vs => ∃ (xs ys : List Value) (r : Value), us = xs.map V.lit ∧ vs = ys.map V.lit ∧ pureS P (do eqGuard op T x y (.agg xs.toArray) (.agg ys.toArray); binOp op T (.agg xs.toArray) (.agg ys.toArray)) = some r ∧ C (.lit r)
  | _, _, _ => False

theorem CR.lits {xs ys : List Value} (h : CR c (xs.map V.lit) ys) : ys = xs := by
  induction xs generalizing ys with
  | nil => exact h.inv_nil
  | cons x xs ih =>
    obtain ⟨y, ys, rfl, h1, h2⟩ := h.uncons
    rw [ih h2, h1.inv_lit]
theorem run_str_add (P : Program) (T : TypeId) (x y : Operand) {a b : ByteArray} (w : World) (h : a.size + b.size ≤ 4611686018427387904) : (do eqGuard .add T x y (.string a) (.string b); binOp .add T (.string a) (.string b) : Sem Value).run P w = .ok (.string (a ++ b)) w := by
  have h1 : ¬ (9223372036854775807 < (a.size : Int) + (b.size : Int)) := by omega
  have : IntKind.i64.max = 9223372036854775807 := by decide
  simp [eqGuard, binOp, Op.stringOp, this, h1]
theorem sbin_ok {P : Program} {op : BinOp} {T : TypeId} {x y : Operand} {u v : V} {C : V → Prop} (h : sbin P op T x y u v C) {a b : Value} (hu : CR c [u] [a]) (hv : CR c [v] [b]) (w : World) :
    ∃ r, C r ∧ ∃ z, (do eqGuard op T x y a b; binOp op T a b : Sem Value).run P w = .ok z w ∧ CR c [r] [z] := by
  unfold sbin at h
  split at h
  all_goals first
    | exact h.elim
    | (obtain rfl := hu.inv_lit
       obtain rfl := hv.inv_lit
       first
         | (refine ⟨_, h, _, ?_, .lit .nil⟩
            simp [eqGuard, binOp, Op.stringOp]
            done)
         | (have hr := h.choose_spec.1
            exact ⟨_, h.choose_spec.2, _, pureS_run hr w, .lit .nil⟩)
         | (have h1 := h.1
            have h2 := h.2
            first
              | (subst h1
                 refine ⟨_, h2, _, ?_, .lit .nil⟩
                 simp [eqGuard, binOp, Op.intArith, Op.intBits, Op.intCmp]
                 done)
              | (subst h1
                 have h3 := h2.1
                 refine ⟨_, h2.2, _, ?_, .lit .nil⟩
                 simp [eqGuard, binOp, Op.intDiv, h3]
                 done)
              | (refine ⟨_, h2, _, ?_, .lit .nil⟩
                 have h3 := Int.not_lt.2 h1
                 simp [eqGuard, binOp, Op.shift, h3]
                 done)
              | (refine ⟨_, h2, _, ?_, .lit .nil⟩
                 exact run_str_add P T x y w h1)))
    | (obtain ⟨xs, ys, r, rfl, rfl, hr, hC⟩ := h
       obtain ⟨xs', rfl, h1, _⟩ := hu.inv_agg
       obtain ⟨ys', rfl, h2, _⟩ := hv.inv_agg
       rw [h1.lits, h2.lits]
       exact ⟨_, hC, r, pureS_run hr w, .lit .nil⟩)
end
end Go.Proofs.YtolhahlnccekcaaDoor.Abs
