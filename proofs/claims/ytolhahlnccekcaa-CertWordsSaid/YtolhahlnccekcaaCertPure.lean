/-
  The certificate's reader and writer as plain functions on lists of numbers. No program in sight.
-/
import Derived.Test.YtolhahlnccekcaaBase
namespace Go.Proofs.Ytolhahlnccekcaa

inductive Tm where
  | mk (op n : Int) (l : List Tm)
mutual
def Tm.enc : Tm → Dat
  | .mk op n l => .node [.int .i64 op, .int .u32 n, .list (Tm.encs l)]
def Tm.encs : List Tm → List Dat
  | [] => []
  | t :: ts => t.enc :: Tm.encs ts
end
theorem Tm.wide (t : Tm) : Wide t.enc 3 := by cases t; exact .node .int (.node .int (.node .list .node0))
theorem Tm.encs_eq (ts : List Tm) : Tm.encs ts = ts.map Tm.enc := by induction ts with
  | nil => rfl
  | cons a ts ih => simp [Tm.encs, ih]
def Tm.zero : Tm := .mk 0 0 []

structure Dv where
  at_ : Int
  a : Tm
  b : Tm
def Dv.enc (d : Dv) : Dat := .node [.int .i64 d.at_, d.a.enc, d.b.enc]
theorem Dv.wide (d : Dv) : Wide d.enc 7 := .node .int (.node d.a.wide (.node d.b.wide .node0))

inductive Sp where
  | mk (kind from_ to stub skip size word : Int) (a b : Tm) (divs : List Dv) (head body els : List Sp)
mutual
def Sp.enc : Sp → Dat
  | .mk kind from_ to stub skip size word a b divs head body els =>
    .node [.int .i64 kind, .int .i64 from_, .int .i64 to, .int .i64 stub, .int .i64 skip, .int .i64 size, .int .i64 word, a.enc, b.enc, .list (divs.map Dv.enc), .list (Sp.encs head), .list (Sp.encs body), .list (Sp.encs els)]
def Sp.encs : List Sp → List Dat
  | [] => []
  | t :: ts => t.enc :: Sp.encs ts
end
theorem Sp.encs_eq (ts : List Sp) : Sp.encs ts = ts.map Sp.enc := by induction ts with
  | nil => rfl
  | cons a ts ih => simp [Sp.encs, ih]
theorem Sp.wide (s : Sp) : Wide s.enc 17 := by
  cases s with
  | mk k a b c d e f A B => exact .node .int (.node .int (.node .int (.node .int (.node .int (.node .int (.node .int (.node A.wide (.node B.wide (.node .list (.node .list (.node .list (.node .list .node0))))))))))))
def Sp.zero : Sp := .mk 0 0 0 0 0 0 0 .zero .zero [] [] [] []

inductive Ct where
  | mk (kind cycles misses word size : Int) (a b : Tm) (l : List Ct)
mutual
def Ct.enc : Ct → Dat
  | .mk kind cycles misses word size a b l => .node [.int .i64 kind, .int .i64 cycles, .int .i64 misses, .int .i64 word, .int .i64 size, a.enc, b.enc, .list (Ct.encs l)]
def Ct.encs : List Ct → List Dat
  | [] => []
  | t :: ts => t.enc :: Ct.encs ts
end
theorem Ct.encs_eq (ts : List Ct) : Ct.encs ts = ts.map Ct.enc := by induction ts with
  | nil => rfl
  | cons a ts ih => simp [Ct.encs, ih]
theorem Ct.wide (c : Ct) : Wide c.enc 12 := by
  cases c with
  | mk k c m w s A B => exact .node .int (.node .int (.node .int (.node .int (.node .int (.node A.wide (.node B.wide (.node .list .node0)))))))
def Ct.zero : Ct := .mk 0 0 0 0 0 .zero .zero []

structure Pm where
  kind : Int
  size : Int
def Pm.enc (p : Pm) : Dat := .node [.int .i64 p.kind, .int .i64 p.size]
theorem Pm.wide (p : Pm) : Wide p.enc 2 := .node .int (.node .int .node0)

structure Cf where
  name : ByteArray
  entry : Int
  params : List Pm
  result : Int
  depth : Int
  steps : List Sp
  cost : Ct
def Cf.enc (c : Cf) : Dat := .node [.str c.name, .int .i64 c.entry, .list (c.params.map Pm.enc), .int .i64 c.result, .int .i64 c.depth, .list (Sp.encs c.steps), c.cost.enc]
theorem Cf.wide (c : Cf) : Wide c.enc 18 := .node .str (.node .int (.node .list (.node .int (.node .int (.node .list (.node c.cost.wide .node0))))))
def Cf.zero : Cf := ⟨ByteArray.empty, 0, [], 0, 0, [], .zero⟩

/-! ### the reader -/
structure RS where
  b : List Nat
  bad : Bool
def RS.spoil (s : RS) : RS := { s with bad := true }

def num : Nat → Int → List Nat → Option (Int × List Nat)
  | _, _, [] => none
  | i, n, c :: l =>
    if 4294967295 < n then none else
    let n' := bits BinOp.or IntKind.u64 n (IntKind.u64.wrap ((c : Int) % 128 * 2 ^ (7 * i)))
    if c < 128 then some (n', l) else if 7 < i then none else num (i + 1) n' l

def RS.number (s : RS) : Int × RS :=
  match num 0 0 s.b with
  | some (n, l) => (n % 4294967296, ⟨l, s.bad || decide (4294967295 < n)⟩)
  | none => (0, s.spoil)
def RS.count (s : RS) : Int × RS :=
  let r := s.number
  if 2147483647 < r.1 then (0, r.2.spoil) else r
def RS.place (s : RS) : Int × RS :=
  let r := s.number
  if 2147483647 < r.1 - 1 then (0, r.2.spoil) else (r.1 - 1, r.2)
def RS.many (s : RS) : Int × RS :=
  let r := s.count
  let s2 := if (r.2.b.length : Int) < r.1 then r.2.spoil else r.2
  if s2.bad then (0, s2) else (r.1, s2)
def RS.deep (d : Int) (s : RS) : Bool × RS :=
  let s2 := if 2048 < d then s.spoil else s
  (s2.bad, s2)

/-- things one behind the other, as long as nothing is bad -/
def loop {α : Type} (g : RS → α × RS) : Nat → List α → RS → List α × RS
  | 0, acc, s => (acc, s)
  | k + 1, acc, s => if s.bad then (acc, s) else let r := g s; loop g k (acc ++ [r.1]) r.2

/-- so many things one behind the other -/
def reps {α : Type} (g : RS → α × RS) : Nat → List α → RS → List α × RS
  | 0, acc, s => (acc, s)
  | k + 1, acc, s => let r := g s; reps g k (acc ++ [r.1]) r.2

def RS.term : Nat → Int → RS → Tm × RS
  | 0, _, s => (.zero, s)
  | f + 1, d, s =>
    let r := s.deep d
    if r.1 then (.zero, r.2) else
    let o := r.2.count
    if o.1 = 0 then (.zero, o.2) else
    let n := o.2.number
    let m := n.2.many
    let l := loop (RS.term f (d + 1)) m.1.toNat [] m.2
    (.mk o.1 n.1 l.1, l.2)
def RS.term1 : RS → Tm × RS := RS.term 2049 1

def RS.div (s : RS) : Dv × RS :=
  let p := s.place
  let a := p.2.term1
  let b := a.2.term1
  (⟨p.1, a.1, b.1⟩, b.2)

def RS.stepsBy (step : RS → Sp × RS) (s : RS) : List Sp × RS :=
  let m := s.many
  loop step m.1.toNat [] m.2

def RS.step : Nat → Int → RS → Sp × RS
  | 0, _, s => (.zero, s)
  | f + 1, d, s =>
    let r := s.deep d
    if r.1 then (.zero, r.2) else
    let k := r.2.count
    let p := reps RS.place 6 [] k.2
    let a := p.2.term1
    let b := a.2.term1
    let m := b.2.many
    let dv := loop RS.div m.1.toNat [] m.2
    let q := reps (RS.stepsBy (RS.step f (d + 1))) 3 [] dv.2
    (.mk k.1 (p.1.getD 0 0) (p.1.getD 1 0) (p.1.getD 2 0) (p.1.getD 3 0) (p.1.getD 4 0) (p.1.getD 5 0) a.1 b.1 dv.1 (q.1.getD 0 []) (q.1.getD 1 []) (q.1.getD 2 []), q.2)

def RS.cost : Nat → Int → RS → Ct × RS
  | 0, _, s => (.zero, s)
  | f + 1, d, s =>
    let r := s.deep d
    if r.1 then (.zero, r.2) else
    let k := r.2.count
    let c := k.2.count
    let m := c.2.count
    let w := m.2.place
    let z := w.2.place
    let a := z.2.term1
    let b := a.2.term1
    let n := b.2.many
    let l := loop (RS.cost f (d + 1)) n.1.toNat [] n.2
    (.mk k.1 c.1 m.1 w.1 z.1 a.1 b.1 l.1, l.2)

def RS.param (s : RS) : Pm × RS :=
  let k := s.count
  let z := k.2.count
  (⟨k.1, z.1⟩, z.2)

def bytesOf (l : List Nat) : ByteArray := ⟨(l.map UInt8.ofNat).toArray⟩

def RS.cert (s : RS) : Cf × RS :=
  let n := s.many
  let s1 : RS := ⟨n.2.b.drop n.1.toNat, n.2.bad⟩
  let e := s1.place
  let m := e.2.many
  let p := loop RS.param m.1.toNat [] m.2
  let r := p.2.count
  let d := r.2.place
  let t := RS.stepsBy (RS.step 2049 1) d.2
  let c := RS.cost 2049 1 t.2
  (⟨bytesOf (n.2.b.take n.1.toNat), e.1, p.1, r.1, d.1, t.1, c.1⟩, c.2)

/-! ### ranges and lengths -/
theorem or_u64 (a b : Int) : 0 ≤ bits BinOp.or IntKind.u64 a b ∧ bits BinOp.or IntKind.u64 a b < 18446744073709551616 := by
  have h := wf_bits BinOp.or IntKind.u64 a b
  simp [Lit.wf, IntKind.min, IntKind.max, IntKind.signed, IntKind.bits] at h
  omega
theorem RS.number_range (s : RS) : 0 ≤ s.number.1 ∧ s.number.1 ≤ 4294967295 := by
  unfold RS.number
  split
  · simp only; omega
  · simp only; omega
theorem RS.count_range (s : RS) : 0 ≤ s.count.1 ∧ s.count.1 ≤ 2147483647 := by
  have := s.number_range
  unfold RS.count
  simp only
  split
  · simp only; omega
  · omega
theorem RS.place_range (s : RS) : -1 ≤ s.place.1 ∧ s.place.1 ≤ 2147483647 := by
  have := s.number_range
  unfold RS.place
  simp only
  split
  · simp only; omega
  · simp only; omega
theorem RS.many_range (s : RS) : 0 ≤ s.many.1 ∧ s.many.1 ≤ s.many.2.b.length := by
  have := s.count_range
  unfold RS.many
  by_cases h : (s.count.2.b.length : Int) < s.count.1
  · simp only [h, if_true, RS.spoil]; omega
  · simp only [h, if_false]
    split
    · simp only; omega
    · simp only; omega

theorem RS.many_1 {s s1 : RS} {n : Int} (hq : s.count = (n, s1)) (h : (s1.b.length : Int) < n) : s.many = (0, ⟨s1.b, true⟩) := by
  simp [RS.many, hq, h, RS.spoil]
theorem RS.many_2 {s s1 : RS} {n : Int} (hq : s.count = (n, s1)) (h : n ≤ (s1.b.length : Int)) (hb : s1.bad = false) : s.many = (n, s1) := by
  simp [RS.many, hq, show ¬ (s1.b.length : Int) < n by omega, hb]
theorem RS.many_3 {s s1 : RS} {n : Int} (hq : s.count = (n, s1)) (h : n ≤ (s1.b.length : Int)) (hb : s1.bad = true) : s.many = (0, s1) := by
  simp [RS.many, hq, show ¬ (s1.b.length : Int) < n by omega, hb]

theorem RS.deep_false {d : Int} {s s1 : RS} (h : s.deep d = (false, s1)) : d ≤ 2048 := by
  rcases Int.lt_or_le 2048 d with hd | hd
  · simp [RS.deep, hd, RS.spoil] at h
  · exact hd
theorem RS.step_1 {f : Nat} {d : Int} {s s1 : RS} (h : s.deep d = (true, s1)) : RS.step (f + 1) d s = (.zero, s1) := by simp [RS.step, h]
theorem RS.step_2 {f : Nat} {d : Int} {s s1 s2 s3 s4 s5 s6 s7 s8 : RS} {k m : Int} {p : List Int} {a b : Tm} {dv : List Dv} {q : List (List Sp)} (h : s.deep d = (false, s1)) (h2 : s1.count = (k, s2)) (h3 : reps RS.place 6 [] s2 = (p, s3))
    (h4 : s3.term1 = (a, s4)) (h5 : s4.term1 = (b, s5)) (h6 : s5.many = (m, s6)) (h7 : loop RS.div m.toNat [] s6 = (dv, s7)) (h8 : reps (RS.stepsBy (RS.step f (d + 1))) 3 [] s7 = (q, s8)) :
    RS.step (f + 1) d s = (.mk k (p.getD 0 0) (p.getD 1 0) (p.getD 2 0) (p.getD 3 0) (p.getD 4 0) (p.getD 5 0) a b dv (q.getD 0 []) (q.getD 1 []) (q.getD 2 []), s8) := by
  simp only [RS.step, h, h2, h3, h4, h5, h6, h7, h8]; rfl
theorem RS.cost_1 {f : Nat} {d : Int} {s s1 : RS} (h : s.deep d = (true, s1)) : RS.cost (f + 1) d s = (.zero, s1) := by simp [RS.cost, h]
theorem RS.cost_2 {f : Nat} {d : Int} {s s1 s2 s3 s4 s5 s6 s7 s8 s9 : RS} {k c i w z m : Int} {a b : Tm} {fin : List Ct × RS} (h : s.deep d = (false, s1)) (h2 : s1.count = (k, s2)) (h3 : s2.count = (c, s3)) (h4 : s3.count = (i, s4))
    (h5 : s4.place = (w, s5)) (h6 : s5.place = (z, s6)) (h7 : s6.term1 = (a, s7)) (h8 : s7.term1 = (b, s8)) (h9 : s8.many = (m, s9)) (hf : fin = loop (RS.cost f (d + 1)) m.toNat [] s9) :
    RS.cost (f + 1) d s = (.mk k c i w z a b fin.1, fin.2) := by
  simp only [RS.cost, h, h2, h3, h4, h5, h6, h7, h8, h9, hf]; rfl

/-! ### the writer -/
structure WS where
  b : List Nat
  bad : Bool
def WS.spoil (s : WS) : WS := { s with bad := true }
def nb : Nat → Nat → List Nat
  | 0, n => [n]
  | f + 1, n => if n < 128 then [n] else (n % 128 + 128) :: nb f (n / 128)
def WS.number (s : WS) (n : Int) : WS := ⟨s.b ++ nb 4 n.toNat, s.bad⟩
def WS.count (s : WS) (n : Int) : WS := if n < 0 ∨ 2147483647 < n then s.spoil else s.number n
def WS.place (s : WS) (n : Int) : WS := if n < -1 ∨ 2147483647 < n then s.spoil else s.number (n + 1)
def WS.deep (s : WS) (d : Int) : WS := if 2048 < d ∨ 1048576 < (s.b.length : Int) then s.spoil else s

mutual
def WS.term : Tm → Int → WS → WS
  | .mk op n l, d, s =>
    let s1 := s.deep d
    if s1.bad then s1 else
    let s2 := s1.count op
    if op = 0 then ⟨s2.b, s2.bad || decide (n ≠ 0) || decide (0 < l.length)⟩ else
    WS.terms l (d + 1) ((s2.number n).count l.length)
def WS.terms : List Tm → Int → WS → WS
  | [], _, s => s
  | t :: ts, d, s => WS.terms ts d (WS.term t d s)
end
def WS.div (s : WS) (v : Dv) : WS := WS.term v.b 1 (WS.term v.a 1 (s.place v.at_))
def WS.divs (l : List Dv) (s : WS) : WS := l.foldl WS.div s
mutual
def WS.step : Sp → Int → WS → WS
  | .mk kind from_ to stub skip size word a b divs head body els, d, s =>
    let s1 := s.deep d
    if s1.bad then s1 else
    let s2 := [from_, to, stub, skip, size, word].foldl WS.place (s1.count kind)
    let s3 := WS.term b 1 (WS.term a 1 s2)
    let s4 := WS.divs divs (s3.count divs.length)
    WS.stepl els (d + 1) ((WS.stepl body (d + 1) ((WS.stepl head (d + 1) (s4.count head.length)).count body.length)).count els.length)
def WS.stepl : List Sp → Int → WS → WS
  | [], _, s => s
  | t :: ts, d, s => WS.stepl ts d (WS.step t d s)
end
def WS.steps (l : List Sp) (d : Int) (s : WS) : WS := WS.stepl l d (s.count l.length)
mutual
def WS.cost : Ct → Int → WS → WS
  | .mk kind cycles misses word size a b l, d, s =>
    let s1 := s.deep d
    if s1.bad then s1 else
    let s2 := ((((s1.count kind).count cycles).count misses).place word).place size
    let s3 := WS.term b 1 (WS.term a 1 s2)
    WS.costs l (d + 1) (s3.count l.length)
def WS.costs : List Ct → Int → WS → WS
  | [], _, s => s
  | t :: ts, d, s => WS.costs ts d (WS.cost t d s)
end
def WS.param (s : WS) (p : Pm) : WS := (s.count p.kind).count p.size
def tl : Nat → Nat → List Nat
  | 0, _ => []
  | k + 1, n => n % 256 :: tl k (n / 256)
def tail4 (n : Nat) : List Nat := tl 4 n
def WS.body (c : Cf) : WS :=
  let s1 := (WS.mk [] false).count c.name.size
  let s2 : WS := ⟨s1.b ++ c.name.data.toList.map (·.toNat), s1.bad⟩
  let s3 := (s2.place c.entry).count c.params.length
  let s4 := c.params.foldl WS.param s3
  let s5 := (s4.count c.result).place c.depth
  WS.cost c.cost 1 (WS.steps c.steps 1 s5)
def Cf.write (c : Cf) : List Nat × Bool :=
  let s := WS.body c
  let b := s.b ++ tail4 s.b.length
  (b, !s.bad && decide (b.length ≤ 1048576))

theorem nb_len : ∀ (f n : Nat), (nb f n).length ≤ f + 1
  | 0, n => by simp [nb]
  | f + 1, n => by unfold nb; split <;> simp; exact nb_len f (n / 128)
theorem WS.number_len (s : WS) (n : Int) : (s.number n).b.length ≤ s.b.length + 5 := by have := nb_len 4 n.toNat; simp [WS.number]; omega
theorem WS.count_len (s : WS) (n : Int) : (s.count n).b.length ≤ s.b.length + 5 := by have := s.number_len n; unfold WS.count; split; · simp [WS.spoil]
                                                                                      · exact this
theorem WS.place_len (s : WS) (n : Int) : (s.place n).b.length ≤ s.b.length + 5 := by have := s.number_len (n + 1); unfold WS.place; split; · simp [WS.spoil]
                                                                                      · exact this
theorem WS.deep_b (s : WS) (d : Int) : (s.deep d).b = s.b := by unfold WS.deep; split <;> rfl
theorem WS.deep_len {s : WS} {d : Int} (h : (s.deep d).bad = false) : s.b.length ≤ 1048576 ∧ d ≤ 2048 ∧ s.deep d = s := by
  unfold WS.deep at h ⊢
  split
  · rename_i h1; rw [if_pos h1] at h; simp [WS.spoil] at h
  · rename_i h1; exact ⟨by omega, by omega, rfl⟩

mutual
theorem WS.term_len : ∀ (t : Tm) (d : Int) (s : WS), (WS.term t d s).b.length ≤ max s.b.length 1048600
  | .mk op n l, d, s => by
    rw [WS.term]
    simp only
    by_cases hb : (s.deep d).bad = true
    · rw [if_pos hb, WS.deep_b]; omega
    · obtain ⟨h1, h2, h3⟩ := WS.deep_len (s := s) (d := d) (by simpa using hb)
      rw [if_neg hb, h3]
      have hc := WS.count_len s op
      by_cases ho : op = 0
      · rw [if_pos ho]; simp only; omega
      · rw [if_neg ho]
        have hn := WS.number_len (s.count op) n
        have hl := WS.count_len ((s.count op).number n) l.length
        have := WS.terms_len l (d + 1) (((s.count op).number n).count l.length)
        omega
theorem WS.terms_len : ∀ (l : List Tm) (d : Int) (s : WS), (WS.terms l d s).b.length ≤ max s.b.length 1048600
  | [], d, s => by rw [WS.terms]; omega
  | t :: ts, d, s => by
    rw [WS.terms]
    have h1 := WS.term_len t d s
    have h2 := WS.terms_len ts d (WS.term t d s)
    omega
end
theorem Tm.mem_lt {op n : Int} {l : List Tm} {t : Tm} (h : t ∈ l) : SizeOf.sizeOf t < SizeOf.sizeOf (Tm.mk op n l) := by
  have := List.sizeOf_lt_of_mem h
  simp; omega
theorem WS.terms_drop {l : List Tm} {k : Nat} {t : Tm} (h : l[k]? = some t) (d : Int) (s : WS) : WS.terms (l.drop k) d s = WS.terms (l.drop (k + 1)) d (WS.term t d s) := by
  obtain ⟨hk, rfl⟩ := List.getElem?_eq_some_iff.1 h
  rw [List.drop_eq_getElem_cons hk, WS.terms]
theorem WS.term_1 {op n : Int} {l : List Tm} {d : Int} {s : WS} (h : (s.deep d).bad = true) : WS.term (.mk op n l) d s = s.deep d := by rw [WS.term]; simp only; rw [if_pos h]
theorem WS.term_2 {n : Int} {l : List Tm} {d : Int} {s : WS} (h : (s.deep d).bad = false) : WS.term (.mk 0 n l) d s = ⟨((s.deep d).count 0).b, ((s.deep d).count 0).bad || decide (n ≠ 0) || decide (0 < l.length)⟩ := by
  rw [WS.term]; simp [h]
theorem WS.term_3 {op n : Int} {l : List Tm} {d : Int} {s : WS} (h : (s.deep d).bad = false) (ho : op ≠ 0) : WS.term (.mk op n l) d s = WS.terms l (d + 1) ((((s.deep d).count op).number n).count l.length) := by
  rw [WS.term]; simp only; rw [if_neg (by simp [h]), if_neg ho]

/-! ### lengths -/
mutual
def Sp.small : Sp → Prop
  | .mk _ _ _ _ _ _ _ _ _ divs head body els => divs.length ≤ 3000 ∧ Sp.smalls head ∧ Sp.smalls body ∧ Sp.smalls els
def Sp.smalls : List Sp → Prop
  | [] => True
  | t :: ts => t.small ∧ Sp.smalls ts
end
theorem Sp.smalls_mem : ∀ {l : List Sp}, Sp.smalls l → ∀ t ∈ l, t.small
  | [], _, t, ht => by simp at ht
  | a :: l, h, t, ht => by
    rcases List.mem_cons.1 ht with rfl | ht
    · exact h.1
    · exact Sp.smalls_mem h.2 t ht
theorem Sp.smalls_of : ∀ {l : List Sp}, (∀ t ∈ l, t.small) → Sp.smalls l
  | [], _ => trivial
  | a :: l, h => ⟨h a (by simp), Sp.smalls_of fun t ht => h t (by simp [ht])⟩
theorem WS.places_len (l : List Int) : ∀ s : WS, (l.foldl WS.place s).b.length ≤ s.b.length + 5 * l.length := by
  induction l with
  | nil => intro s; simp
  | cons x l ih => intro s; have := WS.place_len s x; have := ih (s.place x); simp only [List.foldl_cons, List.length_cons]; omega
theorem WS.div_len (s : WS) (v : Dv) : (s.div v).b.length ≤ max (s.b.length + 5) 1048600 := by
  have h1 := WS.place_len s v.at_
  have h2 := WS.term_len v.a 1 (s.place v.at_)
  have h3 := WS.term_len v.b 1 (WS.term v.a 1 (s.place v.at_))
  unfold WS.div; omega
theorem WS.divs_len (l : List Dv) : ∀ s : WS, (WS.divs l s).b.length ≤ max s.b.length 1048600 + 5 * l.length := by
  induction l with
  | nil => intro s; simp [WS.divs]; omega
  | cons x l ih => intro s; have h1 := WS.div_len s x; have h2 := ih (s.div x); simp only [WS.divs, List.foldl_cons, List.length_cons] at h2 ⊢; omega
mutual
theorem WS.step_len : ∀ (t : Sp) (d : Int) (s : WS), t.small → (WS.step t d s).b.length ≤ max s.b.length (1080000 + 10 * (2050 - d).toNat)
  | .mk kind from_ to stub skip size word a b divs head body els, d, s, hsm => by
    obtain ⟨hd, m1, m2, m3⟩ := hsm
    rw [WS.step]
    simp only
    by_cases hb : (s.deep d).bad = true
    · rw [if_pos hb, WS.deep_b]; omega
    · obtain ⟨h1, h2, h3⟩ := WS.deep_len (s := s) (d := d) (by simpa using hb)
      rw [if_neg hb, h3]
      generalize e1 : s.count kind = s1
      have l1 := WS.count_len s kind
      rw [e1] at l1
      generalize e2 : List.foldl WS.place s1 [from_, to, stub, skip, size, word] = s2
      have l2 := WS.places_len [from_, to, stub, skip, size, word] s1
      rw [e2] at l2
      generalize e3 : WS.term a 1 s2 = s3
      have l3 := WS.term_len a 1 s2
      rw [e3] at l3
      generalize e4 : WS.term b 1 s3 = s4
      have l4 := WS.term_len b 1 s3
      rw [e4] at l4
      generalize e5 : s4.count divs.length = s5
      have l5 := WS.count_len s4 divs.length
      rw [e5] at l5
      generalize e6 : WS.divs divs s5 = s6
      have l6 := WS.divs_len divs s5
      rw [e6] at l6
      generalize e7 : s6.count head.length = s7
      have l7 := WS.count_len s6 head.length
      rw [e7] at l7
      generalize e8 : WS.stepl head (d + 1) s7 = s8
      have l8 := WS.stepl_len head (d + 1) s7 m1
      rw [e8] at l8
      generalize e9 : s8.count body.length = s9
      have l9 := WS.count_len s8 body.length
      rw [e9] at l9
      generalize e10 : WS.stepl body (d + 1) s9 = s10
      have l10 := WS.stepl_len body (d + 1) s9 m2
      rw [e10] at l10
      generalize e11 : s10.count els.length = s11
      have l11 := WS.count_len s10 els.length
      rw [e11] at l11
      have l12 := WS.stepl_len els (d + 1) s11 m3
      simp only [List.length_cons, List.length_nil] at l2
      have hd : (2050 - (d + 1)).toNat + 1 = (2050 - d).toNat := by omega
      omega
theorem WS.stepl_len : ∀ (l : List Sp) (d : Int) (s : WS), Sp.smalls l → (WS.stepl l d s).b.length ≤ max s.b.length (1080000 + 10 * (2050 - d).toNat)
  | [], d, s, _ => by rw [WS.stepl]; omega
  | t :: ts, d, s, h => by
    rw [WS.stepl]
    have h1 := WS.step_len t d s h.1
    have h2 := WS.stepl_len ts d (WS.step t d s) h.2
    omega
end
theorem WS.steps_len (l : List Sp) (d : Int) (s : WS) (h : Sp.smalls l) : (WS.steps l d s).b.length ≤ max (s.b.length + 5) (1080000 + 10 * (2050 - d).toNat) := by
  have h1 := WS.count_len s l.length
  have h2 := WS.stepl_len l d (s.count l.length) h
  unfold WS.steps; omega
mutual
theorem WS.cost_len : ∀ (t : Ct) (d : Int) (s : WS), (WS.cost t d s).b.length ≤ max s.b.length 1048700
  | .mk k c i w z a b l, d, s => by
    rw [WS.cost]
    simp only
    by_cases hb : (s.deep d).bad = true
    · rw [if_pos hb, WS.deep_b]; omega
    · obtain ⟨h1, h2, h3⟩ := WS.deep_len (s := s) (d := d) (by simpa using hb)
      rw [if_neg hb, h3]
      have l1 := WS.count_len s k
      have l2 := WS.count_len (s.count k) c
      have l3 := WS.count_len ((s.count k).count c) i
      have l4 := WS.place_len (((s.count k).count c).count i) w
      have l5 := WS.place_len ((((s.count k).count c).count i).place w) z
      generalize ((((s.count k).count c).count i).place w).place z = s5 at *
      have l6 := WS.term_len a 1 s5
      have l7 := WS.term_len b 1 (WS.term a 1 s5)
      have l8 := WS.count_len (WS.term b 1 (WS.term a 1 s5)) l.length
      have l9 := WS.costs_len l (d + 1) ((WS.term b 1 (WS.term a 1 s5)).count l.length)
      omega
theorem WS.costs_len : ∀ (l : List Ct) (d : Int) (s : WS), (WS.costs l d s).b.length ≤ max s.b.length 1048700
  | [], d, s => by rw [WS.costs]; omega
  | t :: ts, d, s => by
    rw [WS.costs]
    have h1 := WS.cost_len t d s
    have h2 := WS.costs_len ts d (WS.cost t d s)
    omega
end
theorem Sp.mem_lt {l : List Sp} {t : Sp} (h : t ∈ l) : SizeOf.sizeOf t < SizeOf.sizeOf l := List.sizeOf_lt_of_mem h
theorem Ct.mem_lt {k c i w z : Int} {a b : Tm} {l : List Ct} {t : Ct} (h : t ∈ l) : SizeOf.sizeOf t < SizeOf.sizeOf (Ct.mk k c i w z a b l) := by
  have := List.sizeOf_lt_of_mem h
  simp; omega
theorem WS.stepl_drop {l : List Sp} {k : Nat} {t : Sp} (h : l[k]? = some t) (d : Int) (s : WS) : WS.stepl (l.drop k) d s = WS.stepl (l.drop (k + 1)) d (WS.step t d s) := by
  obtain ⟨hk, rfl⟩ := List.getElem?_eq_some_iff.1 h
  rw [List.drop_eq_getElem_cons hk, WS.stepl]
theorem WS.costs_drop {l : List Ct} {k : Nat} {t : Ct} (h : l[k]? = some t) (d : Int) (s : WS) : WS.costs (l.drop k) d s = WS.costs (l.drop (k + 1)) d (WS.cost t d s) := by
  obtain ⟨hk, rfl⟩ := List.getElem?_eq_some_iff.1 h
  rw [List.drop_eq_getElem_cons hk, WS.costs]
theorem foldl_drop {α β : Type} {g : β → α → β} {l : List α} {k : Nat} {t : α} (h : l[k]? = some t) (s : β) : (l.drop k).foldl g s = (l.drop (k + 1)).foldl g (g s t) := by
  obtain ⟨hk, rfl⟩ := List.getElem?_eq_some_iff.1 h
  rw [List.drop_eq_getElem_cons hk, List.foldl_cons]
theorem WS.step_1 {t : Sp} {d : Int} {s : WS} (h : (s.deep d).bad = true) : WS.step t d s = s.deep d := by cases t; rw [WS.step]; simp only; rw [if_pos h]
theorem WS.step_3 {k f1 f2 f3 f4 f5 f6 : Int} {a b : Tm} {dv : List Dv} {h1 h2 h3 : List Sp} {d : Int} {s : WS} (h : (s.deep d).bad = false) :
    WS.step (.mk k f1 f2 f3 f4 f5 f6 a b dv h1 h2 h3) d s = [h1, h2, h3].foldl (fun s l => WS.steps l (d + 1) s) (WS.divs dv ((WS.term b 1 (WS.term a 1 ([f1, f2, f3, f4, f5, f6].foldl WS.place ((s.deep d).count k)))).count dv.length)) := by
  rw [WS.step]; simp only; rw [if_neg (by simp [h])]; rfl
theorem WS.cost_1 {t : Ct} {d : Int} {s : WS} (h : (s.deep d).bad = true) : WS.cost t d s = s.deep d := by cases t; rw [WS.cost]; simp only; rw [if_pos h]
theorem WS.cost_3 {k c i w z : Int} {a b : Tm} {l : List Ct} {d : Int} {s : WS} (h : (s.deep d).bad = false) :
    WS.cost (.mk k c i w z a b l) d s = WS.costs l (d + 1) ((WS.term b 1 (WS.term a 1 ((((((s.deep d).count k).count c).count i).place w).place z))).count l.length) := by
  rw [WS.cost]; simp only; rw [if_neg (by simp [h])]

end Go.Proofs.Ytolhahlnccekcaa
