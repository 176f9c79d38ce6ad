/-
  Walks: Parse.
-/
import Derived.Test.YtolhahlnccekcaaParse1
import Derived.Test.YtolhahlnccekcaaCertPure2
import Derived.Test.YtolhahlnccekcaaRead4
namespace Go.Proofs.Ytolhahlnccekcaa
open Go.RowKit

theorem gbytes_of {G : GG} {l : List Nat} {a : Option Addr} {cap : Nat} (h : SliceIs G (l.map byteD) a l.length cap) : GBytes G a l := by
  have h256 := slice_256 h
  obtain ⟨_, _, _, cs, h3, h4⟩ := h
  have hcs : ∀ (l : List Nat) cs, Reps G (l.map byteD) cs → cs = l.map (fun n : Nat => Value.int .u8 (n : Int)) := by
    intro l
    induction l with
    | nil => intro cs h; exact h.inv_nil
    | cons x l ih => intro cs h; obtain ⟨xs, rfl, _, h⟩ := Reps.inv_int h; rw [ih _ h]; rfl
  have hc := hcs l cs h3
  subst hc
  intro hl
  obtain ⟨b, off, rfl, hG⟩ := h4 hl
  refine ⟨b, off, rfl, fun i c hi => ⟨h256 c (List.mem_of_getElem? hi), hG i _ (by simp [hi])⟩⟩

theorem run_conv_g {G : GG} {w : World} {l : List Nat} {a : Option Addr} {n cap : Nat} (hC : Com w G) (h : GBytes G a l) (hn : n ≤ l.length) : (convert 22 9 (.slice a n cap)).run Try.prog w = .ok (.string (bytesOf (l.take n))) w := by
  rcases Nat.eq_zero_or_pos n with hl | hl
  · subst hl
    cases a with
    | none => exact run_convert_bytes_nil w _ _ Try.underlying22 Try.underlying5 _ _ _ Try.underlying9
    | some ad =>
      show (convert 22 9 (.slice (some ad) 0 cap)).run Try.prog w = .ok (.string (bytesOf [])) w
      rw [run_convert_bytes_string w _ _ _ _ _ cap Try.underlying22 Try.underlying5 Try.underlying9, run_bytesToString w ad 0 cap [] (by simp [loadCells, loadCellsFrom])]
      rfl
  · obtain ⟨b, off, rfl, hG⟩ := h (by omega)
    have := run_convert_bytes_arg (P := Try.prog) w 22 5 Try.underlying22 Try.underlying5 b off n cap ((l.take n).map (fun n : Nat => (n : Int))) (by simp; omega) (fun i hi => by
      rw [hC _ _ _ (hG i l[i] (List.getElem?_eq_getElem (by omega))).2]
      have : i < l.length := by omega
      simp [List.getD, hi, this]) 9 Try.underlying9
    rw [this, strOf_bytes]

/-- Parse: what the bytes read as, when they are just what it is written as -/
def parseM (bs : List Nat) : Option Cf :=
  let r := RS.cert ⟨bs, false⟩
  if r.2.bad then none else if r.1.write = (bs, true) then some r.1 else none

def cfZero : Array Value := cfArr ByteArray.empty 0 (.slice none 0 0) 0 0 (.slice none 0 0) ctZero.toList

def ParsePost (G : GG) (w : World) (bs : List Nat) (e : Ending) (w' : World) : Prop :=
  ∃ G', St G w none G' w' ∧ ((∃ c cs, parseM bs = some c ∧ e = .returned (.tuple #[.agg ⟨cs⟩, .int .i64 0]) ∧ Reps G' [c.enc] cs ∧ CertOk c) ∨ (parseM bs = none ∧ e = .returned (.tuple #[.agg cfZero, .int .i64 10])))

/-- what Parse's walk knows: its reader, its certificate, its result's place -/
structure Ps (G0 : GG) (w0 : World) (rb tb sb : Nat) (G : GG) (w : World) (s : RS) (cs : Array Value) : Prop where
  st : St G0 w0 none G w
  rd : Rd G w rb 3000 s
  rnew : w0.heap.size ≤ rb
  rout : Out G rb
  t : Ob w0.heap.size G w tb 34 cs
  o : Ob w0.heap.size G w sb 34 cfZero
  n1 : rb ≠ tb
  n2 : rb ≠ sb
  n3 : tb ≠ sb
section
variable {G0 G G' : GG} {w0 w w' : World} {rb tb sb : Nat} {s s' : RS} {cs cs' : Array Value}
theorem Ps.rlt (h : Ps G0 w0 rb tb sb G w s cs) : rb < w.heap.size := by obtain ⟨a, cap, hb, _⟩ := h.rd; exact hb.lt
theorem Ps.here (h : Ps G0 w0 rb tb sb G w s cs) : St G w (some rb) G w := St.begin h.st.com h.rout h.rlt
theorem Ps.call (h : Ps G0 w0 rb tb sb G w s cs) (hR : Rd G' w' rb 3000 s') (hS : St G w (some rb) G' w') : Ps G0 w0 rb tb sb G' w' s' cs :=
  ⟨h.st.call_own hS (fun g e => by injection e with e; subst e; exact h.rnew), hR, h.rnew, (hS.out rb rfl).1, h.t.call hS (by simpa using h.n1), h.o.call hS (by simpa using h.n2), h.n1, h.n2, h.n3⟩
theorem Ps.put (h : Ps G0 w0 rb tb sb G w s cs) (hb : Blk w' tb 34 cs') (hg : w.grownBy w' (some tb)) : Ps G0 w0 rb tb sb G w' s cs' :=
  ⟨h.st.step hg (fun g e => by injection e with e; subst e; exact ⟨h.t.new, h.t.out⟩), h.rd.step hg (by simpa using fun e => h.n1 e.symm), h.rnew, h.rout, ⟨h.t.new, hb, h.t.out⟩, h.o.step hg (by simpa using h.n3), h.n1, h.n2, h.n3⟩
theorem Ps.set_ (h : Ps G0 w0 rb tb sb G w s cs) (i : Nat) (u : Value) : Ps G0 w0 rb tb sb G (w.setCell ⟨tb, i, none⟩ u) s (cs.setIfInBounds i u) :=
  h.put (h.t.blk.set_ i u) (gset (grefl w (some tb)) tb i u (.inl rfl))
theorem Ps.alloc (h : Ps G0 w0 rb tb sb G w s cs) (o : Obj) : Ps G0 w0 rb tb sb G (w.alloc o) s cs := ⟨h.st.alloc o, h.rd.alloc o, h.rnew, h.rout, h.t.alloc o, h.o.alloc o, h.n1, h.n2, h.n3⟩
theorem Ps.drew (h : Ps G0 w0 rb tb sb G w s cs) : Ps G0 w0 rb tb sb G w.drew s cs := ⟨h.st.drew, h.rd.drew, h.rnew, h.rout, h.t.drew, h.o.drew, h.n1, h.n2, h.n3⟩
theorem Ps.step {r : Option Nat} (h : Ps G0 w0 rb tb sb G w s cs) (hg : w.grownBy w' r) (hs : ∀ g, r = some g → w0.heap.size ≤ g ∧ Out G g) (h1 : r ≠ some rb) (h2 : r ≠ some tb) (h3 : r ≠ some sb) : Ps G0 w0 rb tb sb G w' s cs :=
  ⟨h.st.step hg hs, h.rd.step hg h1, h.rnew, h.rout, h.t.step hg h2, h.o.step hg h3, h.n1, h.n2, h.n3⟩
theorem Ps.laid (h : Ps G0 w0 rb tb sb G w s cs) (he : Ext w0.heap.size G G') (hC : Com w G') (h1 : Out G' rb) (h2 : Out G' tb) (h3 : Out G' sb) : Ps G0 w0 rb tb sb G' w s cs :=
  ⟨h.st.laid he hC, h.rd.laid he, h.rnew, h1, h.t.laid h2, h.o.laid h3, h.n1, h.n2, h.n3⟩
/-- the reader's own bytes are cut -/
theorem Ps.cut (h : Ps G0 w0 rb tb sb G w s cs) {a : Option Addr} {cap n : Nat} (hb : Blk w rb 52 #[.slice a s.b.length cap, .bool s.bad]) (hg : GBytes G a s.b) (hc : s.b.length ≤ cap) {a' : Option Addr} {len' cap' : Nat} (h1 : len' = (s.b.drop n).length) (h2 : len' ≤ cap') (h3 : GBytes G a' (s.b.drop n)) :
    Ps G0 w0 rb tb sb G (w.setCell ⟨rb, 0, none⟩ (.slice a' len' cap')) ⟨s.b.drop n, s.bad⟩ cs := by
  subst h1
  have hg := gset (grefl w (some rb)) rb 0 (.slice a' (s.b.drop n).length cap') (.inl rfl)
  have hl := h.rd.len
  exact ⟨h.st.step hg (fun g e => by injection e with e; subst e; exact ⟨h.rnew, h.rout⟩), ⟨a', cap', by simpa using hb.set_ 0 (.slice a' (s.b.drop n).length cap'), by simp; omega, h2, h3⟩, h.rnew, h.rout, h.t.step hg (by simpa using h.n1), h.o.step hg (by simpa using h.n2), h.n1, h.n2, h.n3⟩
end

theorem info_Param : (Try.prog.info? 46).map (fun i => (i.zero, i.size, i.bytes)) = some (some (.agg #[.int .i64 0, .int .i64 0]), 2, 16) := by kernel_rfl

theorem cfArr_at (nm : ByteArray) (en : Int) (pv : Value) (re de : Int) (sv : Value) (cc : List Value) : (cfArr nm en pv re de sv cc)[0]? = some (.string nm) ∧ (cfArr nm en pv re de sv cc)[1]? = some (.int .i64 en) ∧ (cfArr nm en pv re de sv cc)[2]? = some pv ∧
    (cfArr nm en pv re de sv cc)[3]? = some (.int .i64 re) ∧ (cfArr nm en pv re de sv cc)[4]? = some (.int .i64 de) ∧ (cfArr nm en pv re de sv cc)[5]? = some sv := ⟨rfl, rfl, rfl, rfl, rfl, rfl⟩
theorem cfArr_set (nm : ByteArray) (en : Int) (pv : Value) (re de : Int) (sv : Value) (cc : List Value) :
    (∀ x, (cfArr nm en pv re de sv cc).setIfInBounds 0 (.string x) = cfArr x en pv re de sv cc) ∧ (∀ x, (cfArr nm en pv re de sv cc).setIfInBounds 1 (.int .i64 x) = cfArr nm x pv re de sv cc) ∧ (∀ x, (cfArr nm en pv re de sv cc).setIfInBounds 2 x = cfArr nm en x re de sv cc) ∧
    (∀ x, (cfArr nm en pv re de sv cc).setIfInBounds 3 (.int .i64 x) = cfArr nm en pv x de sv cc) ∧ (∀ x, (cfArr nm en pv re de sv cc).setIfInBounds 4 (.int .i64 x) = cfArr nm en pv re x sv cc) ∧ (∀ x, (cfArr nm en pv re de sv cc).setIfInBounds 5 x = cfArr nm en pv re de x cc) := by
  simp [cfArr]

section
variable {G0 G G' : GG} {w0 w w' : World} {rb tb sb : Nat} {s : RS} {nm : ByteArray} {en re de : Int} {pv sv : Value} {cc : List Value}
theorem Ps.set0 (h : Ps G0 w0 rb tb sb G w s (cfArr nm en pv re de sv cc)) (x : ByteArray) : Ps G0 w0 rb tb sb G (w.setCell ⟨tb, 0, none⟩ (.string x)) s (cfArr x en pv re de sv cc) := by
  have := h.set_ 0 (.string x); rwa [(cfArr_set _ _ _ _ _ _ _).1] at this
theorem Ps.set1 (h : Ps G0 w0 rb tb sb G w s (cfArr nm en pv re de sv cc)) (x : Int) : Ps G0 w0 rb tb sb G (w.setCell ⟨tb, 1, none⟩ (.int .i64 x)) s (cfArr nm x pv re de sv cc) := by
  have := h.set_ 1 (.int .i64 x); rwa [(cfArr_set _ _ _ _ _ _ _).2.1] at this
theorem Ps.set2 (h : Ps G0 w0 rb tb sb G w s (cfArr nm en pv re de sv cc)) (x : Value) : Ps G0 w0 rb tb sb G (w.setCell ⟨tb, 2, none⟩ x) s (cfArr nm en x re de sv cc) := by
  have := h.set_ 2 x; rwa [(cfArr_set _ _ _ _ _ _ _).2.2.1] at this
theorem Ps.set3 (h : Ps G0 w0 rb tb sb G w s (cfArr nm en pv re de sv cc)) (x : Int) : Ps G0 w0 rb tb sb G (w.setCell ⟨tb, 3, none⟩ (.int .i64 x)) s (cfArr nm en pv x de sv cc) := by
  have := h.set_ 3 (.int .i64 x); rwa [(cfArr_set _ _ _ _ _ _ _).2.2.2.1] at this
theorem Ps.set4 (h : Ps G0 w0 rb tb sb G w s (cfArr nm en pv re de sv cc)) (x : Int) : Ps G0 w0 rb tb sb G (w.setCell ⟨tb, 4, none⟩ (.int .i64 x)) s (cfArr nm en pv re x sv cc) := by
  have := h.set_ 4 (.int .i64 x); rwa [(cfArr_set _ _ _ _ _ _ _).2.2.2.2.1] at this
theorem Ps.set5 (h : Ps G0 w0 rb tb sb G w s (cfArr nm en pv re de sv cc)) (x : Value) : Ps G0 w0 rb tb sb G (w.setCell ⟨tb, 5, none⟩ x) s (cfArr nm en pv re de x cc) := by
  have := h.set_ 5 x; rwa [(cfArr_set _ _ _ _ _ _ _).2.2.2.2.2] at this
theorem Ps.at_ (h : Ps G0 w0 rb tb sb G w s (cfArr nm en pv re de sv cc)) : w.cell? ⟨tb, 0, none⟩ = some (.string nm) ∧ w.cell? ⟨tb, 1, none⟩ = some (.int .i64 en) ∧ w.cell? ⟨tb, 2, none⟩ = some pv ∧ w.cell? ⟨tb, 3, none⟩ = some (.int .i64 re) ∧ w.cell? ⟨tb, 4, none⟩ = some (.int .i64 de) ∧ w.cell? ⟨tb, 5, none⟩ = some sv := by
  simp only [h.t.cell]
  exact cfArr_at _ _ _ _ _ _ _
theorem Ps.fro {cs : Array Value} (h : Ps G0 w0 rb tb sb G w s cs) (i : Nat) : w.frozen? ⟨tb, i, none⟩ = false := h.t.frozen i
end
theorem Ps.call_none {G0 G G' : GG} {w0 w w' : World} {rb tb sb : Nat} {s : RS} {cs : Array Value} (h : Ps G0 w0 rb tb sb G w s cs) (hS : St G w none G' w') : Ps G0 w0 rb tb sb G' w' s cs :=
  ⟨h.st.call_none hS, h.rd.call hS (by simp), h.rnew, hS.ext.out h.rout h.rlt, h.t.call hS (by simp), h.o.call hS (by simp), h.n1, h.n2, h.n3⟩
theorem cert_eq {s s1 s2 s3 s4 s5 s6 s7 s8 s9 : RS} {n en m re de : Int} {nm : ByteArray} {fin : List Pm × RS} {ts : List Pm} {ss : List Sp} {ct : Ct} (h1 : s.many = (n, s1)) (h2 : s2 = ⟨s1.b.drop n.toNat, s1.bad⟩) (h3 : nm = bytesOf (s1.b.take n.toNat)) (h4 : s2.place = (en, s3)) (h5 : s3.many = (m, s4))
    (h6 : fin = loop RS.param m.toNat [] s4) (h7 : fin = (ts, s5)) (h8 : s5.count = (re, s6)) (h9 : s6.place = (de, s7)) (h10 : RS.stepsBy (RS.step 2049 1) s7 = (ss, s8)) (h11 : RS.cost 2049 1 s8 = (ct, s9)) : RS.cert s = (⟨nm, en, ts, re, de, ss, ct⟩, s9) := by
  rw [h6] at h7
  simp only [RS.cert, h1, ← h2, ← h3, h4, h5, h7, h8, h9, h10, h11]
theorem parseM_bad {bs : List Nat} {c : Cf} {s : RS} (h : RS.cert ⟨bs, false⟩ = (c, s)) (hb : s.bad = true) : parseM bs = none := by
  simp [parseM, h, hb]
theorem parseM_no {bs : List Nat} {c : Cf} {s : RS} (h : RS.cert ⟨bs, false⟩ = (c, s)) (hb : c.write ≠ (bs, true)) : parseM bs = none := by
  simp [parseM, h, hb]
theorem parseM_yes {bs : List Nat} {c : Cf} {s : RS} (h : RS.cert ⟨bs, false⟩ = (c, s)) (hg : s.bad = false) (hb : c.write = (bs, true)) : parseM bs = some c := by
  simp [parseM, h, hb, hg]
theorem reps_cf {G : GG} {nm : ByteArray} {en re de : Int} {ts : List Pm} {ss : List Sp} {ct : Ct} {va vs : Option Addr} {vc vd : Nat} {cc : List Value} (h1 : (Lit.int .i64 en).wf = true) (h2 : (Lit.int .i64 re).wf = true) (h3 : (Lit.int .i64 de).wf = true) (h4 : SliceIs G (ts.map Pm.enc) va ts.length vc)
    (h5 : SliceIs G (ss.map Sp.enc) vs ss.length vd) (h6 : Reps G [ct.enc] cc) : Reps G [(Cf.mk nm en ts re de ss ct).enc] (cfArr nm en (.slice va ts.length vc) re de (.slice vs ss.length vd) cc).toList :=
  .mk_one_node (.str <| .int h1 <| .mk_list h4 <| .int h2 <| .int h3 <| .mk_list (by rw [Sp.encs_eq]; exact h5) h6)
theorem cf_zero_reps (G : GG) : Reps G [Cf.zero.enc] cfZero.toList := by
  have hn : SliceIs G [] none 0 0 := ⟨rfl, Nat.le_refl _, by decide, [], .nil, fun h => by cases h⟩
  exact reps_cf (ts := []) (ss := []) (by decide) (by decide) (by decide) hn hn (ct_zero_reps G)
theorem parse_bad {G G' : GG} {w w1 w' : World} {bs : List Nat} {rb tb sb : Nat} {s : RS} {cs : Array Value} (hp : parseM bs = none) (hP : Ps G w rb tb sb G' w1 s cs) {z : Array Value} (hb : Blk w' sb 34 z) (hz : z = cfZero) (hg : w1.grownBy w' (some sb)) :
    ParsePost G w bs (.returned (.tuple #[.agg z, .int .i64 10])) w' := by
  subst hz
  exact ⟨G', hP.st.step hg (fun g e => by injection e with e; subst e; exact ⟨hP.o.new, hP.o.out⟩), .inr ⟨hp, rfl⟩⟩
theorem parse_good {G G' : GG} {w w1 w' : World} {bs : List Nat} {rb tb sb : Nat} {s : RS} {cs z : Array Value} {c : Cf} (hp : parseM bs = some c) (hP : Ps G w rb tb sb G' w1 s cs) (hg : w1.grownBy w' (some sb)) (hr : Reps G' [c.enc] z.toList) (ok : CertOk c) :
    ParsePost G w bs (.returned (.tuple #[.agg z, .int .i64 0])) w' :=
  ⟨G', hP.st.step hg (fun g e => by injection e with e; subst e; exact ⟨hP.o.new, hP.o.out⟩), .inl ⟨c, z.toList, hp, rfl, hr, ok⟩⟩
theorem certOk_of {bs : List Nat} {c : Cf} {s : RS} (h : RS.cert ⟨bs, false⟩ = (c, s)) (hl : bs.length ≤ 3000) : CertOk c := by
  have := cert_small ⟨bs, false⟩ hl
  rw [h] at this
  exact ⟨by have := this.1; simp only at this; omega, by have := this.2.1; simp only at this; omega, this.2.2⟩
theorem gbytes_cut0 {G : GG} {a : Option Addr} {n : Nat} {l : List Nat} (h : l.length ≤ n) : GBytes G a (l.drop n) := fun hl => by
  rw [List.length_drop] at hl; omega
theorem gbytes_cut1 {G : GG} {a : Option Addr} {n : Nat} {l : List Nat} (h : GBytes G a l) : GBytes G (a.map (fun x => x.add n)) (l.drop n) := by
  intro hl
  rw [List.length_drop] at hl
  obtain ⟨b, off, rfl, h5⟩ := h (by omega)
  refine ⟨b, off + n, by simp [addr_add], fun i c hi => ?_⟩
  rw [List.getElem?_drop] at hi
  obtain ⟨h1, h2⟩ := h5 (n + i) c hi
  exact ⟨h1, by rw [← h2]; congr 1; omega⟩

/-- the loop over the parameters: 'k' rounds are gone -/
structure Pg (fin : List Pm × RS) (m : Int) (G0 : GG) (w0 : World) (rb tb sb : Nat) (nm : ByteArray) (en : Int) (G : GG) (wr : World) (k : Nat) (v : Value) (ts : List Pm) (s : RS) : Prop where
  ps : Ps G0 w0 rb tb sb G wr s (cfArr nm en v 0 0 (.slice none 0 0) ctZero.toList)
  row : Row w0.heap.size G wr 46 2 v (ts.map Pm.enc)
  len : ts.length ≤ k
  rest : loop RS.param (m.toNat - k) ts s = fin
section
variable {fin : List Pm × RS} {m : Int} {G0 : GG} {w0 : World} {rb tb sb : Nat} {nm : ByteArray} {en : Int} {G : GG} {wr : World} {k : Nat} {v : Value} {ts : List Pm} {s : RS}
theorem Pg.form (h : Pg fin m G0 w0 rb tb sb nm en G wr k v ts s) : ∃ a cap, v = .slice a ts.length cap := by
  obtain ⟨a, cap, he⟩ := h.row.form
  exact ⟨a, cap, by rw [he, List.length_map]⟩
theorem Pg.bad (h : Pg fin m G0 w0 rb tb sb nm en G wr k v ts s) (hb : s.bad = true) : fin = (ts, s) := by
  rw [← h.rest]
  cases m.toNat - k with
  | zero => rfl
  | succ n => rw [loop, if_pos hb]
theorem Pg.over (h : Pg fin m G0 w0 rb tb sb nm en G wr k v ts s) (hk : m ≤ k) : fin = (ts, s) := by
  rw [← h.rest, show m.toNat - k = 0 by omega]; rfl
theorem Pg.one (h : Pg fin m G0 w0 rb tb sb nm en G wr k v ts s) (hb : s.bad = false) (hk : (k : Int) < m) {t : Pm} {s' : RS} (hg : RS.param s = (t, s')) : loop RS.param (m.toNat - (k + 1)) (ts ++ [t]) s' = fin := by
  rw [← h.rest, show m.toNat - k = (m.toNat - (k + 1)) + 1 by omega, loop, if_neg (by simp [hb]), hg]
theorem Pg.cells (h : Pg fin m G0 w0 rb tb sb nm en G wr k v ts s) : v.ownBlock ≠ some tb ∧ v.ownBlock ≠ some sb ∧ v.ownBlock ≠ some rb := by
  obtain ⟨a, cap, hb, _⟩ := h.ps.rd
  exact ⟨h.row.ne_ob h.ps.t.blk (by decide), h.row.ne_ob h.ps.o.blk (by decide), h.row.ne_ob hb (by decide)⟩
theorem Pg.more {G' : GG} {w9 : World} {kk zz : Int} {s6 s7 : RS} {v' v2 : Value} (h : Pg fin m G0 w0 rb tb sb nm en G wr k v ts s) (hb : s.bad = false) (hk : (k : Int) < m) (h1 : s.count = (kk, s6)) (h2 : s6.count = (zz, s7))
    (hP : Ps G0 w0 rb tb sb G' w9 s7 (cfArr nm en v2 0 0 (.slice none 0 0) ctZero.toList)) (hW : Row w0.heap.size G' w9 46 2 v' (ts.map Pm.enc ++ [Pm.enc ⟨kk, zz⟩])) : Pg fin m G0 w0 rb tb sb nm en G' (w9.setCell ⟨tb, 2, none⟩ v') (k + 1) v' (ts ++ [⟨kk, zz⟩]) s7 := by
  refine ⟨hP.set2 _, ?_, by have := h.len; simp; omega, h.one hb hk (by simp [RS.param, h1, h2])⟩
  rw [List.map_append]
  exact hW.set_ (hW.ne_ob hP.t.blk (by decide)) 2 v'
theorem Pg.done {va : Option Addr} {vl vc : Nat} (h : Pg fin m G0 w0 rb tb sb nm en G wr k (.slice va vl vc) ts s) : ∃ G', Ps G0 w0 rb tb sb G' wr s (cfArr nm en (.slice va vl vc) 0 0 (.slice none 0 0) ctZero.toList) ∧ SliceIs G' (ts.map Pm.enc) va ts.length vc := by
  obtain ⟨h1, h2, h3⟩ := h.cells
  obtain ⟨G', a', cap', he, hC, hE, hI, ho⟩ := h.row.done h.ps.st.com
  injection he with e1 e2 e3
  subst e1 e3
  rw [List.length_map] at hI
  exact ⟨G', h.ps.laid hE hC (ho rb h.ps.rout h3) (ho tb h.ps.t.out h1) (ho sb h.ps.o.out h2), hI⟩
end
set_option maxRecDepth 100000 in
set_option maxHeartbeats 2000000 in
theorem parse_any (G : GG) (bs : List Nat) (w : World) (a : Option Addr) (cap : Nat) (hC : Com w G) (hb : SliceIs G (bs.map byteD) a bs.length cap) (hl : bs.length ≤ 3000) :
    Calls Try.prog 6 #[.slice a bs.length cap] w (ParsePost G w bs) := by
  have hp1 : Ps G w (w.heap.size + 1) (w.heap.size + 2) w.heap.size G (((w.alloc (Obj.cells cfZero 34)).alloc (Obj.cells #[.slice a bs.length cap, .bool false] 52)).alloc (Obj.cells cfZero 34)) ⟨bs, false⟩ cfZero :=
    ⟨(((St.start hC).alloc _).alloc _).alloc _,
     ⟨a, cap, by simpa using (Blk.new (w.alloc (Obj.cells cfZero 34)) 52 #[.slice a bs.length cap, .bool false]).alloc (Obj.cells cfZero 34), hl, by have := hb.2.1; omega, gbytes_of hb⟩,
     by omega, hC.out (by omega), by simpa using Ob.made (B := w.heap.size) ((hC.alloc (Obj.cells cfZero 34)).alloc (Obj.cells #[.slice a bs.length cap, .bool false] 52)) (by simp; omega) 34 cfZero,
     ((Ob.made (B := w.heap.size) hC (Nat.le_refl _) 34 cfZero).alloc _).alloc _, by omega, by omega, by omega⟩
  have HP1 := hid hp1
  have HB := hid hb
  have HC := hid hC
  clear hp1 hb hC
  go_enter Try.func6, Try.ntmps6
  go_wp2_with fail
  refine (many_any G (w.heap.size + 1) 3000 ⟨bs, false⟩ _ HP1.out.rd HP1.out.here).mono ?_
  rintro e w1 ⟨rfl, hR2, hS2⟩
  have hrg := (RS.mk bs false).many_range
  generalize hq1 : (RS.mk bs false).many = q1 at *
  obtain ⟨n, s1⟩ := q1
  obtain ⟨n0, n1⟩ := hrg
  simp only at hR2 n0 n1
  have hP2 := HP1.out.call hR2 hS2
  obtain ⟨rb, hrb⟩ : ∃ rb, rb = w.heap.size + 1 := ⟨_, rfl⟩
  obtain ⟨tb, htb⟩ : ∃ tb, tb = w.heap.size + 2 := ⟨_, rfl⟩
  obtain ⟨sb, hsb⟩ : ∃ sb, sb = w.heap.size := ⟨_, rfl⟩
  rw [← hrb, ← htb, ← hsb] at hP2
  have htb2 : tb = w.heap.size + 1 + 1 := htb
  simp only [← htb2]
  simp only [← hrb]
  simp only [← hsb]
  obtain ⟨a1, cap1, hb1, hl1, hc1, hg1⟩ := hP2.rd
  have r0 := hb1.cell 0
  have r1 := hb1.cell 1
  have rf0 := hb1.frozen 0
  have rf1 := hb1.frozen 1
  simp at r0 r1
  have t0 := (hP2.t.cell 0).trans (cfArr_at _ _ _ _ _ _ _).1
  have f0 := hP2.t.frozen 0
  have HCV := hid (run_conv_g (n := n.toNat) (cap := cap1) hP2.st.com hg1 (by omega))
  have HB1 := hid hb1
  have HG1 := hid hg1
  have hne1 : ¬ rb = tb := hP2.n1
  have hne2 : ¬ tb = rb := fun e => hne1 e.symm
  have HP2 := hid hP2
  have HQ1 := hid hq1
  clear hR2 hS2 hq1 hP2 hrb htb htb2 hsb hb1 hg1 HP1
  go_wp2_with (simp only [HCV.out])
  all_goals
    have hP2 := HP2.out.set0 (bytesOf (s1.b.take n.toNat))
    have hB2 := HB1.out.far hne1 (p := ⟨tb, 0, none⟩) (.string (bytesOf (s1.b.take n.toNat)))
    first
      | have hP3 := hP2.cut (n := n.toNat) (a' := a1) (len' := s1.b.length - n.toNat) (cap' := 0) hB2 HG1.out hc1 (by simp) (by omega) (gbytes_cut0 (by omega))
        have HP3 := hid hP3
      | have hP3 := hP2.cut (n := n.toNat) (a' := a1.map (fun x => x.add n.toNat)) (len' := s1.b.length - n.toNat) (cap' := cap1 - n.toNat) hB2 HG1.out hc1 (by simp) (by omega) (gbytes_cut1 HG1.out)
        have HP3 := hid hP3
    clear hP2 hB2 hP3 HP2 HB1 HG1 r0 r1 rf0 rf1 t0 f0
    obtain ⟨s2, hs2⟩ : ∃ s2, s2 = (⟨s1.b.drop n.toNat, s1.bad⟩ : RS) := ⟨_, rfl⟩
    obtain ⟨nm, hnm⟩ : ∃ nm, nm = bytesOf (s1.b.take n.toNat) := ⟨_, rfl⟩
    rw [← hs2, ← hnm] at HP3
    simp only [← hnm]
    have HS2 := hid hs2
    have HNM := hid hnm
    clear hs2 hnm HCV n1
    refine (place_any G rb 3000 s2 _ HP3.out.rd HP3.out.here).mono ?_
    rintro e w4 ⟨rfl, hR4, hS4⟩
    have hrg := s2.place_range
    generalize hq2 : s2.place = q2 at *
    obtain ⟨en, s3⟩ := q2
    simp only at hR4 hrg
    have hen : (Lit.int .i64 en).wf = true := WalkArith.wf_i64 (by omega)
    have hP4 := HP3.out.call hR4 hS4
    obtain ⟨-, t1, -, -, -, -⟩ := hP4.at_
    have f1 := hP4.fro 1
    have HP4 := hid (hP4.set1 en)
    have HQ2 := hid hq2
    have HEN := hid hen
    clear hR4 hS4 hq2 hP4 hrg hen HP3
    go_wp2_with fail
    clear t1 f1
    refine (many_any G rb 3000 s3 _ HP4.out.rd HP4.out.here).mono ?_
    rintro e w5 ⟨rfl, hR5, hS5⟩
    have hrg := s3.many_range
    generalize hq3 : s3.many = q3 at *
    obtain ⟨m, s4⟩ := q3
    obtain ⟨m0, m1⟩ := hrg
    have hlm := hR5.len
    simp only at hR5 m0 m1 hlm
    have hP5 := HP4.out.call hR5 hS5
    obtain ⟨fin, hfin⟩ : ∃ fin, fin = loop RS.param m.toNat [] s4 := ⟨_, rfl⟩
    have hg0 : Pg fin m G w rb tb sb nm en G w5 0 (.slice none 0 0) [] s4 := ⟨hP5, Row.nil _ _ _ _ _, by simp, hfin.symm⟩
    have HG0 := hid hg0
    have HFIN := hid hfin
    have HQ3 := hid hq3
    clear hR5 hS5 hq3 hP5 hg0 hfin HP4
    go_wp2_with fail
    go_loopw [36] (fun i wr => ∃ (k : Nat) (G1 : GG) (ts : List Pm) (v : Value) (s5 : RS), i = .int .i64 k ∧ (k : Int) ≤ m ∧ Pg fin m G w rb tb sb nm en G1 wr k v ts s5) (fun i _ => m.toNat - (intOf i).toNat)
    case atStart => exact ⟨0, G, [], .slice none 0 0, s4, rfl, by omega, HG0.out⟩
    case round =>
      obtain ⟨k, G1, ts, v, s5, rfl, hk, hGa⟩ := hrel
      clear HG0
      obtain ⟨va, vc, rfl⟩ := hGa.form
      obtain ⟨a, cap, r0, r1, rf0, rf1, hlen⟩ := hGa.ps.rd.cells
      have hlen2 : ts.length ≤ 3000 := by have := hGa.len; omega
      obtain ⟨-, -, t2, -, -, -⟩ := hGa.ps.at_
      have f2 := hGa.ps.fro 2
      have HA := hid hGa
      obtain ⟨ht1, ht2, ht3⟩ := hGa.cells
      clear hGa
      rcases (by cases s5.bad <;> simp <;> omega : ((k : Int) < m ∧ s5.bad = false) ∨ (((k : Int) < m ∧ s5.bad = true) ∨ m ≤ k)) with ⟨hkm, hbad⟩ | hx
      · rw [hbad] at r1
        have HBAD := hid hbad
        have HT1 := hid ht1
        have HT2 := hid ht2
        have HT3 := hid ht3
        clear hbad ht1 ht2 ht3
        obtain ⟨i0, hi0, hz0, hz1, hz2⟩ := info_parts info_Param
        go_wp2_with fail
        go_region_law (first
          | (refine step_append_row _ rfl (.tmp 43) (.tmp 49) 24 rfl i0 _ 16 Try.underlying24 hi0 hz0 hz1 hz2 rfl (by omega) HW8.out HC8.out [Pm.enc ⟨kk, zz⟩] [.int .i64 kk, .int .i64 zz] (Src.blk (Blk.new w7 46 ⟨[.int .i64 kk, .int .i64 zz]⟩) 1) HR8.out rfl ?_ hB8 ?_
             · simp only [List.length_cons, List.length_nil, List.length_map]; omega
             intro v' w9 hW9 hg9 hob9
             obtain ⟨va', vc', rfl⟩ := hW9.form
             have hP9 := HP8.out.step hg9 (fun g e => ⟨(HW8.out.lt e).1, HW8.out.out g e⟩) HT3.out HT1.out HT2.out
             obtain ⟨-, -, d2, -, -, -⟩ := hP9.at_
             have g2 := hP9.fro 2
             simp only [List.length_append, List.length_cons, List.length_nil, Nat.zero_add, List.length_map] at hW9 hob9 hg9
             have HW9 := hid hW9
             have HOB9 := hid hob9
             have HP9 := hid hP9
             clear hW9 hg9 hob9 hP9)
          | (go_simp
             go_at_call 13
             first
               | (refine (count_any G1 rb 3000 s6 _ HP6.out.rd HP6.out.here).mono ?_
                  rintro e w7 ⟨rfl, hR7, hS7⟩
                  have hrg := s6.count_range
                  generalize hq5 : s6.count = q5 at *
                  obtain ⟨zz, s7⟩ := q5
                  simp only at hR7 hrg
                  have hzz : (Lit.int .i64 zz).wf = true := WalkArith.wf_i64 (by omega)
                  have HZZ := hid hzz
                  have HQ5 := hid hq5
                  have hP7 := HP6.out.call hR7 hS7
                  have hP8 := hP7.alloc (Obj.cells ⟨[.int .i64 kk, .int .i64 zz]⟩ 46)
                  obtain ⟨-, -, c72, -, -, -⟩ := hP7.at_
                  obtain ⟨-, -, c82, -, -, -⟩ := hP8.at_
                  have hW8 := (HW6.out.call hS7 (fun g hg => by injection hg with hg; subst hg; exact HT3.out)).alloc (Obj.cells ⟨[.int .i64 kk, .int .i64 zz]⟩ 46)
                  have hB8 : w.heap.size ≤ (w7.alloc (Obj.cells ⟨[.int .i64 kk, .int .i64 zz]⟩ 46)).heap.size := hP8.st.size
                  have HR8 := hid (show Reps G1 [Pm.enc ⟨kk, zz⟩] [.int .i64 kk, .int .i64 zz] from .mk_one_node (.int HKK.out (.int HZZ.out .nil)))
                  have HC8 := hid hP8.st.com
                  have HP8 := hid hP8
                  have HW8 := hid hW8
                  clear hR7 hS7 hq5 hrg hzz hP7 hP8 hW8)
               | (refine (count_any G1 rb 3000 s5 _ HA.out.ps.drew.rd HA.out.ps.drew.here).mono ?_
                  rintro e w6 ⟨rfl, hR6, hS6⟩
                  have hrg := s5.count_range
                  generalize hq4 : s5.count = q4 at *
                  obtain ⟨kk, s6⟩ := q4
                  simp only at hR6 hrg
                  have hkk : (Lit.int .i64 kk).wf = true := WalkArith.wf_i64 (by omega)
                  have HKK := hid hkk
                  have HQ4 := hid hq4
                  have hP6 := HA.out.ps.drew.call hR6 hS6
                  obtain ⟨-, -, c62, -, -, -⟩ := hP6.at_
                  have HW6 := hid (HA.out.row.drew.call hS6 (fun g hg => by injection hg with hg; subst hg; exact HT3.out))
                  have HP6 := hid hP6
                  clear hR6 hS6 hq4 hrg hkk hP6)))
        all_goals go_wp2_with fail
        all_goals
          exact ⟨⟨k + 1, G1, ts ++ [⟨kk, zz⟩], .slice va' (ts.length + 1) vc', s7, by go_num, by omega, HA.out.more HBAD.out hkm HQ4.out HQ5.out HP9.out HW9.out⟩, by simp [intOf]; omega⟩
      · have hf2 : fin = (ts, s5) := by
          rcases hx with ⟨_, hb⟩ | hm
          · exact HA.out.bad hb
          · exact HA.out.over hm
        obtain ⟨G2, hP2, hI2⟩ := HA.out.done
        have HF2 := hid hf2
        have HP2 := hid hP2
        have HI2 := hid hI2
        clear hf2 hP2 hI2 HA ht1 ht2 ht3
        rcases hx with ⟨hkm, hbad⟩ | hkm
        all_goals
          try (rw [hbad] at r1; clear hbad)
          go_wp2_with fail
          clear t2 f2 r0 r1 rf0 rf1
          refine (count_any G2 rb 3000 s5 _ HP2.out.rd HP2.out.here).mono ?_
          rintro e w6 ⟨rfl, hR6, hS6⟩
          have hrg := s5.count_range
          generalize hq6 : s5.count = q6 at *
          obtain ⟨re, s6⟩ := q6
          simp only at hR6 hrg
          have hre : (Lit.int .i64 re).wf = true := WalkArith.wf_i64 (by omega)
          have HRE := hid hre
          have HQ6 := hid hq6
          have HP6 := hid (HP2.out.call hR6 hS6)
          clear hR6 hS6 hq6 hrg hre HP2
          go_wp2_with fail
          refine (place_any G2 rb 3000 s6 _ HP6.out.rd HP6.out.here).mono ?_
          rintro e w7 ⟨rfl, hR7, hS7⟩
          have hrg := s6.place_range
          generalize hq7 : s6.place = q7 at *
          obtain ⟨de, s7⟩ := q7
          simp only at hR7 hrg
          have hde : (Lit.int .i64 de).wf = true := WalkArith.wf_i64 (by omega)
          have HDE := hid hde
          have HQ7 := hid hq7
          have hP7 := HP6.out.call hR7 hS7
          obtain ⟨-, -, -, t3, t4, -⟩ := hP7.at_
          have f3 := hP7.fro 3
          have f4 := hP7.fro 4
          have HP7 := hid ((hP7.set3 re).set4 de)
          clear hR7 hS7 hq7 hrg hde hP7 HP6
          go_wp2_with fail
          clear t3 t4 f3 f4
          refine (steps_any rb 3000 (by omega) 1 (RS.step 2049 1) (fun s G w h hS => step_any rb 3000 (by omega) 2049 1 s G w h hS (by omega) (by omega) (by omega)) s7 G2 _ HP7.out.rd HP7.out.here).mono ?_
          rintro e w8 ⟨G8, vs, vd, rfl, hI8, hR8, hS8⟩
          generalize hq8 : RS.stepsBy (RS.step 2049 1) s7 = q8 at *
          obtain ⟨ss, s8⟩ := q8
          simp only at hR8 hI8
          have HQ8 := hid hq8
          have hP8 := HP7.out.call hR8 hS8
          obtain ⟨-, -, -, -, -, t5⟩ := hP8.at_
          have f5 := hP8.fro 5
          have HP8 := hid (hP8.set5 (.slice vs ss.length vd))
          have HI8 := hid hI8
          have HI9 := hid (HI2.out.ext hS8.ext)
          clear hR8 hS8 hq8 hP8 hI8 HP7 HI2
          go_wp2_with fail
          clear t5 f5
          refine (cost_any rb 3000 (by omega) 2049 1 s8 G8 _ HP8.out.rd HP8.out.here (by omega) (by omega) (by omega)).mono ?_
          rintro e w9 ⟨G9, cc, rfl, hr9, hR9, hS9⟩
          generalize hq9 : RS.cost 2049 1 s8 = q9 at *
          obtain ⟨ct, s9⟩ := q9
          simp only at hR9 hr9
          have HQ9 := hid hq9
          have hcl : cc.length = 12 := ct.wide.cells hr9
          have HCL := hid hcl
          have HP9 := hid (HP8.out.call hR9 hS9)
          have HI10 := hid (HI8.out.ext hS9.ext)
          have HI11 := hid (HI9.out.ext hS9.ext)
          have hcert := cert_eq HQ1.out HS2.out HNM.out HQ2.out HQ3.out HFIN.out HF2.out HQ6.out HQ7.out HQ8.out HQ9.out
          have HCERT := hid hcert
          have HR9 := hid hr9
          clear hR9 hS9 hq9 hr9 hcl hcert HP8 HI8 HI9 HQ1 HS2 HNM HQ2 HQ3 HFIN HF2 HQ6 HQ7 HQ8 HQ9
          cases hbad9 : s9.bad <;> have HBAD9 := hid hbad9 <;> clear hbad9
          · go_wp2_with (first
            | (refine wpList_store_part rfl 32 (.tmp 64) (.tmp 63) rfl (off := 6) (cfArr nm en (.slice va ts.length vc) re de (.slice vs ss.length vd) cc) cc rfl HP9.out.t.blk rfl (by rw [HCL.out]; kernel_rfl) HR9.out.one (by rw [HCL.out]; simp [cfArr, ctZero, ctArr]) (by rw [HCL.out]; simp [cfArr, ctZero, ctArr]) ?_
               intro w10 hb10 hg10
               have hP10 := HP9.out.put hb10 hg10
               obtain ⟨a, cap, r0, r1, rf0, rf1, hlen⟩ := hP10.rd.cells
               rw [HBAD9.out] at r1
               have HP10 := hid hP10
               clear hb10 hg10 hP10)
            | (refine wpList_load_row rfl 34 (.tmp 5) rfl tb rfl 34 _ (0, 0) _ HP10.out.t.blk Try.underlying34 rfl (by rw [show (cfArr nm en (.slice va ts.length vc) re de (.slice vs ss.length vd) cc).size = 18 by simp [cfArr, HCL.out]]; kernel_rfl) ?_))
            clear r0 r1 rf0 rf1
            have hr10 := reps_cf (nm := nm) HEN.out HRE.out HDE.out HI11.out HI10.out HR9.out
            have hok := certOk_of HCERT.out (by omega)
            refine (write_any G9 ⟨nm, en, ts, re, de, ss, ct⟩ _ _ HP10.out.st.com hr10 hok.name hok.params hok.small).mono ?_
            rintro e w11 ⟨G11, ow, oc, rfl, hI12, hS11⟩
            have HP11 := hid (HP10.out.call_none hS11)
            have HR11 := hid (hr10.ext hS11.ext)
            have HOK := hid hok
            clear hr10 hok hS11 HP10 HI10 HI11 HR9
            generalize hcf : (Cf.mk nm en ts re de ss ct) = cf at *
            have HCF := hid hcf
            clear hcf
            cases hw1 : cf.write.2
            · have hpm := parseM_no HCERT.out (by intro e; rw [e] at hw1; cases hw1)
              have HPM := hid hpm
              clear hw1 hpm hI12
              go_wp2_with (first
                | (refine wpList_store_part rfl 34 (.tmp 2) (.tmp 83) rfl cfZero cfZero.toList rfl HP11.out.o.blk rfl (by kernel_rfl) (cf_zero_reps G).one (by decide) (by rfl) ?_
                   intro w12 hb12 hg12
                   have HB12 := hid hb12
                   have HG12 := hid hg12
                   clear hb12 hg12))
              exact ret_row2 _ rfl rfl HB12.out Try.underlying34 rfl (by kernel_rfl) rfl (parse_bad HPM.out HP11.out HB12.out rfl HG12.out)
            · have HW1 := hid hw1
              have HI12 := hid hI12
              clear hw1 hI12
              go_wp2_with fail
              refine (equal_any HP11.out.st.com HI12.out (HB.out.ext HP11.out.st.ext)).mono ?_
              rintro e w12 ⟨rfl, rfl⟩
              by_cases hown : cf.write.1 = bs
              · have hd : decide (cf.write.1 = bs) = true := decide_eq_true hown
                have hpm := parseM_yes HCERT.out HBAD9.out (by rw [← hown, ← HW1.out])
                have HPM := hid hpm
                clear hown hpm
                go_wp2_with (first
                  | (simp only [hd])
                  | (refine wpList_load_row rfl 34 (.tmp 5) rfl tb rfl 34 _ (0, 0) _ HP11.out.t.blk Try.underlying34 rfl (by rw [show (cfArr nm en (.slice va ts.length vc) re de (.slice vs ss.length vd) cc).size = 18 by simp [cfArr, HCL.out]]; kernel_rfl) ?_)
                  | (refine wpList_store_part rfl 34 (.tmp 2) (.tmp 84) rfl (cfArr nm en (.slice va ts.length vc) re de (.slice vs ss.length vd) cc) (cfArr nm en (.slice va ts.length vc) re de (.slice vs ss.length vd) cc).toList rfl HP11.out.o.blk rfl (by rw [show (cfArr nm en (.slice va ts.length vc) re de (.slice vs ss.length vd) cc).toList.length = 18 by simp [cfArr, HCL.out]]; kernel_rfl) HR11.out.one (by simp [cfArr, HCL.out, cfZero, ctZero, ctArr]) (by simp [cfArr, HCL.out, cfZero, ctZero, ctArr]) ?_
                     intro w12 hb12 hg12
                     have HB12 := hid hb12
                     have HG12 := hid hg12
                     clear hb12 hg12))
                exact ret_row2 _ rfl rfl HB12.out Try.underlying34 rfl (by rw [show (cfArr nm en (.slice va ts.length vc) re de (.slice vs ss.length vd) cc).size = 18 by simp [cfArr, HCL.out]]; kernel_rfl) rfl (parse_good HPM.out HP11.out HG12.out HR11.out HOK.out)
              · have hd : decide (cf.write.1 = bs) = false := decide_eq_false hown
                have hpm := parseM_no HCERT.out (by intro e; exact hown (congrArg Prod.fst e))
                have HPM := hid hpm
                clear hown hpm
                go_wp2_with (first
                  | (simp only [hd])
                  | (refine wpList_store_part rfl 34 (.tmp 2) (.tmp 83) rfl cfZero cfZero.toList rfl HP11.out.o.blk rfl (by kernel_rfl) (cf_zero_reps G).one (by decide) (by rfl) ?_
                     intro w12 hb12 hg12
                     have HB12 := hid hb12
                     have HG12 := hid hg12
                     clear hb12 hg12))
                exact ret_row2 _ rfl rfl HB12.out Try.underlying34 rfl (by kernel_rfl) rfl (parse_bad HPM.out HP11.out HB12.out rfl HG12.out)
          · go_wp2_with (first
            | (refine wpList_store_part rfl 32 (.tmp 64) (.tmp 63) rfl (off := 6) (cfArr nm en (.slice va ts.length vc) re de (.slice vs ss.length vd) cc) cc rfl HP9.out.t.blk rfl (by rw [HCL.out]; kernel_rfl) HR9.out.one (by rw [HCL.out]; simp [cfArr, ctZero, ctArr]) (by rw [HCL.out]; simp [cfArr, ctZero, ctArr]) ?_
               intro w10 hb10 hg10
               have hP10 := HP9.out.put hb10 hg10
               obtain ⟨a, cap, r0, r1, rf0, rf1, hlen⟩ := hP10.rd.cells
               rw [HBAD9.out] at r1
               have HP10 := hid hP10
               clear hb10 hg10 hP10)
            | (refine wpList_store_part rfl 34 (.tmp 2) (.tmp 69) rfl cfZero cfZero.toList rfl HP10.out.o.blk rfl (by kernel_rfl) (cf_zero_reps G).one (by decide) (by rfl) ?_
               intro w12 hb12 hg12
               have HB12 := hid hb12
               have HG12 := hid hg12
               clear hb12 hg12))
            exact ret_row2 _ rfl rfl HB12.out Try.underlying34 rfl (by kernel_rfl) rfl (parse_bad (parseM_bad HCERT.out HBAD9.out) HP10.out HB12.out rfl HG12.out)
end Go.Proofs.Ytolhahlnccekcaa
