/-
  Walks of the certificate's reader, the calls that build trees: whatever the bytes, each ends with a tree.
-/
import Derived.Test.YtolhahlnccekcaaRead
import Derived.Deep.RegionWith
namespace Go.Proofs.Ytolhahlnccekcaa
open Go.RowKit

def TermPost (r : Tm × RS) (G : GG) (w : World) (rb L : Nat) (e : Ending) (w' : World) : Prop :=
  ∃ G' c0 c1 c2, e = .returned (.agg #[c0, c1, c2]) ∧ Reps G' [r.1.enc] [c0, c1, c2] ∧ Rd G' w' rb L r.2 ∧ St G w (some rb) G' w'

/-- a loop that gathers: 'k' rounds are gone; what is left of it gives 'fin' -/
structure Gath {α : Type} (enc : α → Dat) (e size : Nat) (g : RS → α × RS) (fin : List α × RS) (m : Int) (G0 : GG) (w0 : World) (rb L : Nat) (G : GG) (wr : World) (k : Nat) (v : Value) (ts : List α) (s : RS) : Prop where
  st : St G0 w0 (some rb) G wr
  rd : Rd G wr rb L s
  row : Row w0.heap.size G wr e size v (ts.map enc)
  len : ts.length ≤ k
  rest : loop g (m.toNat - k) ts s = fin

section
variable {α : Type} {enc : α → Dat} {e size : Nat} {g : RS → α × RS} {fin : List α × RS} {m : Int} {G0 G G' : GG} {w0 wr w' : World} {rb L k : Nat} {v : Value} {ts : List α} {s : RS}
theorem Gath.form (h : Gath enc e size g fin m G0 w0 rb L G wr k v ts s) : ∃ a cap, v = .slice a ts.length cap := by
  obtain ⟨a, cap, he⟩ := h.row.form
  exact ⟨a, cap, by rw [he, List.length_map]⟩
theorem Gath.bad (h : Gath enc e size g fin m G0 w0 rb L G wr k v ts s) (hb : s.bad = true) : fin = (ts, s) := by
  rw [← h.rest]
  cases m.toNat - k with
  | zero => rfl
  | succ n => rw [loop, if_pos hb]
theorem Gath.over (h : Gath enc e size g fin m G0 w0 rb L G wr k v ts s) (hk : m ≤ k) : fin = (ts, s) := by
  rw [← h.rest, show m.toNat - k = 0 by omega]; rfl
theorem Gath.one (h : Gath enc e size g fin m G0 w0 rb L G wr k v ts s) (hb : s.bad = false) (hk : (k : Int) < m) {t : α} {s' : RS} (hg : g s = (t, s')) : loop g (m.toNat - (k + 1)) (ts ++ [t]) s' = fin := by
  rw [← h.rest, show m.toNat - k = (m.toNat - (k + 1)) + 1 by omega, loop, if_neg (by simp [hb]), hg]
end

/-- the loop of 'term' -/
def TermRel (g : RS → Tm × RS) (fin : List Tm × RS) (m : Int) (G0 : GG) (w0 : World) (rb L tb sb : Nat) (op n : Int) (wr : World) (k : Nat) : Prop :=
  ∃ G ts v s, Gath Tm.enc 29 3 g fin m G0 w0 rb L G wr k v ts s ∧ Ob w0.heap.size G wr tb 29 #[.int .i64 op, .int .u32 n, v] ∧ Ob w0.heap.size G wr sb 29 #[.int .i64 0, .int .u32 0, .slice none 0 0] ∧
    v.ownBlock ≠ some tb ∧ v.ownBlock ≠ some sb

theorem info_Term : (Try.prog.info? 29).map (fun i => (i.zero, i.size, i.bytes)) = some (some (.agg #[.int .i64 0, .int .u32 0, .slice none 0 0]), 3, 40) := by kernel_rfl

theorem reps_tm_zero (G : GG) : Reps G [Tm.zero.enc] [.int .i64 0, .int .u32 0, .slice none 0 0] :=
  .mk_one_node (.int (by decide) (.int (by decide) (.mk_list (es := []) ⟨rfl, Nat.le_refl _, by decide, [], .nil, fun h => by cases h⟩ .nil)))

theorem term_zero {r : Tm × RS} {s : RS} {G0 G : GG} {w0 w : World} {rb L sb : Nat} (hr : r = (.zero, s)) (hS : St G0 w0 (some rb) G w) (hR : Rd G w rb L s) (hne : rb ≠ sb) (hO : Ob w0.heap.size G w sb 29 #[.int .i64 0, .int .u32 0, .slice none 0 0]) :
    TermPost r G0 w0 rb L (.returned (.agg #[.int .i64 0, .int .u32 0, .slice none 0 0])) (((w.setCell ⟨sb, 0, none⟩ (.int .i64 0)).setCell ⟨sb, 1, none⟩ (.int .u32 0)).setCell ⟨sb, 2, none⟩ (.slice none 0 0)) := by
  subst hr
  exact ⟨G, _, _, _, rfl, reps_tm_zero G, ((hR.far hne _ _).far hne _ _).far hne _ _, ((hS.set_own hO.new hO.out _ _).set_own hO.new hO.out _ _).set_own hO.new hO.out _ _⟩

theorem term_end {r : Tm × RS} {g : RS → Tm × RS} {fin : List Tm × RS} {m : Int} {G0 G : GG} {w0 wr : World} {rb L sb k : Nat} {op n : Int} {ts : List Tm} {s : RS} {a : Option Addr} {vc vl : Nat} (h0 : 0 ≤ op) (h1 : op ≤ 2147483647) (h2 : 0 ≤ n) (h3 : n ≤ 4294967295)
    (hr : r = (.mk op n fin.1, fin.2)) (hf : fin = (ts, s)) (hG : Gath Tm.enc 29 3 g fin m G0 w0 rb L G wr k (.slice a vl vc) ts s) (hne : rb ≠ sb) (hO : Ob w0.heap.size G wr sb 29 #[.int .i64 0, .int .u32 0, .slice none 0 0])
    (hv : (Value.slice a vl vc).ownBlock ≠ some sb) :
    TermPost r G0 w0 rb L (.returned (.agg #[.int .i64 op, .int .u32 n, .slice a vl vc])) (((wr.setCell ⟨sb, 0, none⟩ (.int .i64 op)).setCell ⟨sb, 1, none⟩ (.int .u32 n)).setCell ⟨sb, 2, none⟩ (.slice a vl vc)) := by
  rw [hr, hf]
  obtain ⟨G', a', cap', he, hC, hE, hI, ho⟩ := hG.row.done hG.st.com
  injection he with e1 e2 e3
  subst e1 e3
  rw [← e2] at hI
  have hO' := ho _ hO.out hv
  exact ⟨G', _, _, _, rfl, .mk_one_node (.int (WalkArith.wf_i64 (by omega)) (.int (WalkArith.wf_u32 (by omega)) (.mk_list (by rw [Tm.encs_eq]; exact hI) .nil))), (((hG.rd.laid hE).far hne _ _).far hne _ _).far hne _ _,
    (((hG.st.laid hE hC).set_own hO.new hO' _ _).set_own hO.new hO' _ _).set_own hO.new hO' _ _⟩

/-- behind a round: the call, a new block with what it told, the append, the store into the struct's field -/
theorem Gath.more {α : Type} {enc : α → Dat} {e size : Nat} {g : RS → α × RS} {fin : List α × RS} {m : Int} {G0 G0' G : GG} {w0 wr w5 w7 : World} {rb L k : Nat} {v v' : Value} {ts : List α} {s s' : RS} {t : α} {o : Obj}
    (h : Gath enc e size g fin m G0 w0 rb L G0' wr k v ts s) (hb : s.bad = false) (hk : (k : Int) < m) (hgs : g s = (t, s')) (hS : St G0 w0 (some rb) G w5) (hR : Rd G w5 rb L s')
    (hW : Row w0.heap.size G (w5.alloc o) e size v (ts.map enc)) (hW7 : Row w0.heap.size G w7 e size v' (ts.map enc ++ [enc t])) (hg : (w5.alloc o).grownBy w7 v.ownBlock) : Gath enc e size g fin m G0 w0 rb L G w7 (k + 1) v' (ts ++ [t]) s' := by
  have hrb := (hS.out rb rfl).2
  have hvb : v.ownBlock ≠ some rb := fun e => by have := (hW.lt e).1; omega
  exact ⟨(hS.alloc o).step hg (fun g e => ⟨(hW.lt e).1, hW.out g e⟩), (hR.alloc o).step hg hvb, by simpa using hW7, by have := h.len; simp; omega, h.one hb hk hgs⟩
theorem Gath.set_ {α : Type} {enc : α → Dat} {e size : Nat} {g : RS → α × RS} {fin : List α × RS} {m : Int} {G0 G : GG} {w0 wr : World} {rb L k : Nat} {v : Value} {ts : List α} {s : RS} {b : Nat}
    (h : Gath enc e size g fin m G0 w0 rb L G wr k v ts s) (hb : w0.heap.size ≤ b) (ho : Out G b) (hv : v.ownBlock ≠ some b) (i : Nat) (u : Value) : Gath enc e size g fin m G0 w0 rb L G (wr.setCell ⟨b, i, none⟩ u) k v ts s := by
  have hrb := (h.st.out rb rfl).2
  exact ⟨h.st.set_own hb ho i u, h.rd.far (by omega) i u, h.row.set_ hv i u, h.len, h.rest⟩

theorem term_step {g : RS → Tm × RS} {fin : List Tm × RS} {m : Int} {G0 G0' G : GG} {w0 wr w5 w7 : World} {rb L tb sb k : Nat} {op n : Int} {ts : List Tm} {s s' : RS} {t : Tm} {v v' : Value} {o : Obj} (h : Gath Tm.enc 29 3 g fin m G0 w0 rb L G0' wr k v ts s)
    (hb : s.bad = false) (hk : (k : Int) < m) (hgs : g s = (t, s')) (hS : St G0 w0 (some rb) G w5) (hR : Rd G w5 rb L s')
    (hT : Ob w0.heap.size G w5 tb 29 #[.int .i64 op, .int .u32 n, v]) (hO : Ob w0.heap.size G w5 sb 29 #[.int .i64 0, .int .u32 0, .slice none 0 0]) (hne : tb ≠ sb)
    (hW : Row w0.heap.size G (w5.alloc o) 29 3 v (ts.map Tm.enc)) (h1 : v.ownBlock ≠ some tb) (h2 : v.ownBlock ≠ some sb)
    (hW7 : Row w0.heap.size G w7 29 3 v' (ts.map Tm.enc ++ [t.enc])) (hg : (w5.alloc o).grownBy w7 v.ownBlock) (hob : v'.ownBlock = v.ownBlock ∨ v'.ownBlock = some (w5.alloc o).heap.size) :
    TermRel g fin m G0 w0 rb L tb sb op n (w7.setCell ⟨tb, 2, none⟩ v') (k + 1) := by
  have hn1 : v'.ownBlock ≠ some tb := by
    have := hT.lt
    rcases hob with h | h <;> rw [h]
    · exact h1
    · simp; omega
  have hn2 : v'.ownBlock ≠ some sb := by
    have := hO.lt
    rcases hob with h | h <;> rw [h]
    · exact h2
    · simp; omega
  have hT7 := (hT.alloc o).step hg h1
  refine ⟨G, ts ++ [t], v', s', (h.more hb hk hgs hS hR hW hW7 hg).set_ hT.new hT.out hn1 2 v', ?_, ((hO.alloc o).step hg h2).far (fun e => hne e.symm) 2 v', hn1, hn2⟩
  simpa using hT7.set_ 2 v'

theorem TermPost.alloc {r : Tm × RS} {G : GG} {w w' : World} {rb L : Nat} {e : Ending} (h : TermPost r G w rb L e w') (o : Obj) : TermPost r G w rb L e (w'.alloc o) := by
  obtain ⟨G', c0, c1, c2, he, hr, hR, hS⟩ := h
  exact ⟨G', c0, c1, c2, he, hr, hR.alloc o, hS.alloc o⟩

theorem RS.term_1 {f : Nat} {d : Int} {s s1 : RS} (h : s.deep d = (true, s1)) : RS.term (f + 1) d s = (.zero, s1) := by simp [RS.term, h]
theorem RS.term_2 {f : Nat} {d : Int} {s s1 s2 : RS} (h : s.deep d = (false, s1)) (h2 : s1.count = (0, s2)) : RS.term (f + 1) d s = (.zero, s2) := by simp [RS.term, h, h2]
theorem RS.term_3 {f : Nat} {d : Int} {s s1 s2 s3 s4 : RS} {op n m : Int} {fin : List Tm × RS} (h : s.deep d = (false, s1)) (h2 : s1.count = (op, s2)) (ho : 0 < op) (h3 : s2.number = (n, s3)) (h4 : s3.many = (m, s4))
    (h5 : fin = loop (RS.term f (d + 1)) m.toNat [] s4) : RS.term (f + 1) d s = (.mk op n fin.1, fin.2) := by
  simp [RS.term, h, h2, h3, h4, h5, show ¬ op = 0 by omega]
set_option maxRecDepth 100000 in
set_option maxHeartbeats 1000000 in
theorem term_any (rb L : Nat) (hL : L ≤ 3000) : ∀ (f : Nat) (d : Int) (s : RS) (G : GG) (w : World), Rd G w rb L s → St G w (some rb) G w → 1 ≤ d → d ≤ 2049 → 2050 ≤ d + f →
    Calls Try.prog 25 #[.pointer (some ⟨rb, 0, none⟩), .int .i64 d] w (TermPost (RS.term f d s) G w rb L) := by
  intro f
  induction f with
  | zero => intro d s G w _ _ _ _; omega
  | succ f ih =>
    intro d s G w h hS hd1 hd2 hf
    have IH := hid ih
    clear ih
    have hlt : rb < w.heap.size := (hS.out rb rfl).2
    have h1 := h.alloc (Obj.cells #[Value.int IntKind.i64 0, Value.int IntKind.u32 0, Value.slice none 0 0] 29)
    have hS1 := hS.alloc (Obj.cells #[Value.int IntKind.i64 0, Value.int IntKind.u32 0, Value.slice none 0 0] 29)
    have ho1 := Ob.made (B := w.heap.size) hS.com (Nat.le_refl _) 29 #[Value.int IntKind.i64 0, Value.int IntKind.u32 0, Value.slice none 0 0]
    have H1 := hid h1
    have HS1 := hid hS1
    have HO1 := hid ho1
    clear h hS h1 hS1 ho1
    go_enter Try.func25, Try.ntmps25
    go_wp2_with fail
    refine (deep_any G rb L s _ H1.out HS1.out.now d).mono ?_
    rintro e w1 ⟨rfl, hr2, hS2⟩
    generalize hq1 : s.deep d = q1 at *
    obtain ⟨b, s1⟩ := q1
    simp only at hr2
    have hO2 := HO1.out.call hS2 (by simp; omega)
    have HS2 := hid (HS1.out.call hS2)
    have HR2 := hid hr2
    have HO2 := hid hO2
    have HQ1 := hid hq1
    have c0 := hO2.cell 0
    have c1 := hO2.cell 1
    have c2 := hO2.cell 2
    have f0 := hO2.frozen 0
    have f1 := hO2.frozen 1
    have f2 := hO2.frozen 2
    simp at c0 c1 c2
    clear hr2 hS2 hO2 hq1
    cases b with
    | true =>
      go_wp2_with fail
      exact ret_row _ rfl rfl (((HO2.out.set_ 0 _).set_ 1 _).set_ 2 _).blk Try.underlying29 rfl (by kernel_rfl) rfl (term_zero (RS.term_1 HQ1.out) HS2.out HR2.out (by omega) HO2.out)
    | false =>
      have hd3 : d ≤ 2048 := RS.deep_false HQ1.out
      clear c0 c1 c2 f0 f1 f2
      go_wp2_with fail
      refine (count_any G rb L s1 _ HR2.out HS2.out.now).mono ?_
      rintro e w2 ⟨rfl, hr3, hS3⟩
      have hrg := s1.count_range
      generalize hq2 : s1.count = q2 at *
      obtain ⟨op, s2⟩ := q2
      obtain ⟨op0, op1⟩ := hrg
      simp only at hr3 op0 op1
      have hO3 := HO2.out.call hS3 (by simp; omega)
      have hS3' := HS2.out.call hS3
      have c0 := hO3.cell 0
      have c1 := hO3.cell 1
      have c2 := hO3.cell 2
      have f0 := hO3.frozen 0
      have f1 := hO3.frozen 1
      have f2 := hO3.frozen 2
      simp at c0 c1 c2
      have hz := hO3.lt
      have HS3 := hid hS3'
      have HR3 := hid hr3
      have HO3 := hid hO3
      have HQ2 := hid hq2
      clear hS3 hS3' hr3 hO3 hq2
      rcases Int.lt_or_le 0 op with hop | hop
      · have hop' : (op == 0) = false := by simp; omega
        clear c0 c1 c2 f0 f1 f2
        go_wp2_with fail
        have hS4 := HS3.out.alloc (Obj.cells #[Value.int IntKind.i64 op, Value.int IntKind.u32 0, Value.slice none 0 0] 29)
        have hR4 := HR3.out.alloc (Obj.cells #[Value.int IntKind.i64 op, Value.int IntKind.u32 0, Value.slice none 0 0] 29)
        have hO4 := HO3.out.alloc (Obj.cells #[Value.int IntKind.i64 op, Value.int IntKind.u32 0, Value.slice none 0 0] 29)
        have hT4 := Ob.made (B := w.heap.size) HS3.out.com HS3.out.size 29 #[Value.int IntKind.i64 op, Value.int IntKind.u32 0, Value.slice none 0 0]
        refine (number_any G rb L s2 _ hR4 hS4.now).mono ?_
        rintro e w3 ⟨rfl, hR5, hS5⟩
        have hrg := s2.number_range
        generalize hq3 : s2.number = q3 at *
        obtain ⟨n, s3⟩ := q3
        obtain ⟨n0, n1⟩ := hrg
        simp only at hR5 n0 n1
        have hO5 := hO4.call hS5 (by simp; omega)
        have hT5 := hT4.call hS5 (by simp; omega)
        have hS5' := hS4.call hS5
        obtain ⟨tb, htb⟩ : ∃ tb, tb = w2.heap.size := ⟨_, rfl⟩
        have hlt2 : w.heap.size < tb := by have := HO3.out.lt; omega
        rw [← htb] at hT5
        have c0 := hT5.cell 0
        have c1 := hT5.cell 1
        have c2 := hT5.cell 2
        have f0 := hT5.frozen 0
        have f1 := hT5.frozen 1
        have f2 := hT5.frozen 2
        simp at c0 c1 c2
        have HS5 := hid hS5'
        have HR5 := hid hR5
        have HO5 := hid hO5
        have HT5 := hid hT5
        have HTB := hid htb
        have HQ3 := hid hq3
        clear hS4 hR4 hO4 hT4 hS5 hS5' hR5 hO5 hT5 HS3 HR3 HO3 hq3
        simp only [← htb]
        clear htb
        go_wp2_with fail
        have hS6 := HS5.out.set_own HT5.out.new HT5.out.out 1 (.int .u32 n)
        have hR6 := HR5.out.far (show rb ≠ tb by omega) 1 (.int .u32 n)
        have hO6 := HO5.out.far (show w.heap.size ≠ tb by omega) 1 (.int .u32 n)
        have hT6 := HT5.out.set_ 1 (.int .u32 n)
        refine (many_any G rb L s3 _ hR6 hS6.now).mono ?_
        rintro e w4 ⟨rfl, hR7, hS7⟩
        have hrg := s3.many_range
        generalize hq4 : s3.many = q4 at *
        obtain ⟨m, s4⟩ := q4
        obtain ⟨m0, m1⟩ := hrg
        have hlm := hR7.len
        simp only at hR7 m0 m1 hlm
        have hO7 := hO6.call hS7 (by simp; omega)
        have hT7 := hT6.call hS7 (by simp; omega)
        have hS7' := hS6.call hS7
        simp at hT7
        obtain ⟨fin, hfin⟩ : ∃ fin, fin = loop (RS.term f (d + 1)) m.toNat [] s4 := ⟨_, rfl⟩
        have hrel0 : TermRel (RS.term f (d + 1)) fin m G w rb L tb w.heap.size op n w4 0 := ⟨G, [], .slice none 0 0, s4, ⟨hS7', hR7, Row.nil _ _ _ _ _, by simp, hfin.symm⟩, hT7, hO7, by simp [Value.ownBlock], by simp [Value.ownBlock]⟩
        have HREL := hid hrel0
        have HFIN := hid (RS.term_3 HQ1.out HQ2.out hop HQ3.out hq4 hfin)
        clear hS6 hR6 hO6 hT6 hS7 hO7 hT7 hS7' hR7 c0 c1 c2 f0 f1 f2 HS5 HR5 HO5 HT5 hrel0 hfin hq4
        go_wp2_with fail
        obtain ⟨sb, hsb⟩ : ∃ sb, sb = w.heap.size := ⟨_, rfl⟩
        have HSB := hid hsb
        rw [← hsb] at HREL hlt hlt2
        simp only [← hsb]
        clear hsb HTB
        go_loopw [22] (fun i wr => ∃ k : Nat, i = .int .i64 k ∧ (k : Int) ≤ m ∧ TermRel (RS.term f (d + 1)) fin m G w rb L tb sb op n wr k) (fun i _ => m.toNat - (intOf i).toNat)
        case atStart => exact ⟨0, rfl, by omega, HREL.out⟩
        case round =>
          obtain ⟨k, rfl, hk, G1, ts, v, s5, hGa, hT, hO, hv1, hv2⟩ := hrel
          clear HREL
          obtain ⟨va, vc, rfl⟩ := hGa.form
          obtain ⟨a, cap, r0, r1, rf0, rf1, hlen⟩ := hGa.rd.cells
          have c0 := hT.cell 0
          have c1 := hT.cell 1
          have c2 := hT.cell 2
          have f0 := hT.frozen 0
          have f1 := hT.frozen 1
          have f2 := hT.frozen 2
          simp at c0 c1 c2
          have d0 := hO.frozen 0
          have d1 := hO.frozen 1
          have d2 := hO.frozen 2
          have e0 := hO.cell 0
          have e1 := hO.cell 1
          have e2 := hO.cell 2
          simp at e0 e1 e2
          have hlen2 : ts.length ≤ 3000 := by have := hGa.len; omega
          have HA := hid hGa
          have HT := hid hT
          have HO := hid hO
          have HV1 := hid hv1
          have HV2 := hid hv2
          clear hGa hT hO hv1 hv2
          by_cases hkm : (k : Int) < m
          · cases hbad : s5.bad <;> rw [hbad] at r1 <;> have HBAD := hid hbad <;> clear hbad
            · obtain ⟨i0, hi0, hz0, hz1, hz2⟩ := info_parts info_Term
              have hwrap : IntKind.i64.wrap (d + 1) = d + 1 := IntWalk.i64_in _ (by omega)
              go_wp2_with fail
              go_region_law (first
                | (refine step_append_row _ rfl (.tmp 29) (.tmp 34) 27 rfl i0 _ 40 Try.underlying27 hi0 hz0 hz1 hz2 rfl (by omega) hW6 hC6 [t.enc] [x0, x1, x2] (Src.blk (Blk.new w5 29 #[x0, x1, x2]) 1) hr5 rfl ?_ hB6 ?_
                   · simp only [List.length_cons, List.length_nil, List.length_map]; omega
                   intro v' w7 hW7 hg7 hob7
                   obtain ⟨va', vc', rfl⟩ := hW7.form
                   have hT7 := (hT5.alloc (Obj.cells #[x0, x1, x2] 29)).step hg7 HV1.out
                   have c27 := hT7.cell 2
                   have f27 := hT7.frozen 2
                   simp at c27
                   simp only [List.length_append, List.length_cons, List.length_nil, Nat.zero_add, List.length_map] at hW7 hob7 hg7
                   have HW7 := hid hW7
                   have HG7 := hid hg7
                   have HOB7 := hid hob7
                   have HT7 := hid hT7
                   clear hW7 hg7 hob7 hT7)
                | (go_simp
                   go_at_call 25
                   refine (IH.out (d + 1) s5 G1 wr.drew HA.out.rd.drew HA.out.st.drew.now (by omega) (by omega) (by omega)).mono ?_
                   rintro e w5 ⟨G2, x0, x1, x2, rfl, hr5, hR5, hS5⟩
                   generalize hq5 : RS.term f (d + 1) s5 = q5 at *
                   obtain ⟨t, s6⟩ := q5
                   simp only at hr5 hR5
                   have HQ5 := hid hq5
                   clear hq5
                   have hT5 := HT.out.drew.call hS5 (by simp; omega)
                   have c25 := hT5.cell 2
                   have c26 := (hT5.alloc (Obj.cells #[x0, x1, x2] 29)).cell 2
                   simp only [List.getElem?_toArray, List.getElem?_cons_succ, List.getElem?_cons_zero] at c25 c26
                   have hW6 := (HA.out.row.drew.call hS5 (fun g hg => by intro he; have := (HA.out.row.lt he).1; have := HSB.out; injection hg with hg; omega)).alloc (Obj.cells #[x0, x1, x2] 29)
                   have hC6 := hS5.com.alloc (Obj.cells #[x0, x1, x2] 29)
                   have hB6 : w.heap.size ≤ (w5.alloc (Obj.cells #[x0, x1, x2] 29)).heap.size := by have := (HA.out.st.drew.call hS5).size; simp; omega))
              all_goals go_wp2_with fail
              all_goals exact ⟨⟨k + 1, by go_num, by omega, term_step HA.out HBAD.out hkm HQ5.out (HA.out.st.drew.call hS5) hR5 hT5 (HO.out.drew.call hS5 (by simp; omega)) (by omega) hW6 HV1.out HV2.out HW7.out HG7.out HOB7.out⟩, by simp [intOf]; omega⟩
            · go_wp2_with fail
              exact ret_row _ rfl rfl (((HO.out.set_ 0 _).set_ 1 _).set_ 2 _).blk Try.underlying29 rfl (by kernel_rfl) rfl
                (term_end op0 op1 n0 n1 HFIN.out (HA.out.bad HBAD.out) HA.out (by omega) HO.out HV2.out)
          · go_wp2_with fail
            exact ret_row _ rfl rfl (((HO.out.set_ 0 _).set_ 1 _).set_ 2 _).blk Try.underlying29 rfl (by kernel_rfl) rfl
              (term_end op0 op1 n0 n1 HFIN.out (HA.out.over (by omega)) HA.out (by omega) HO.out HV2.out)
      · obtain rfl : op = 0 := by omega
        go_wp2_with fail
        exact ret_row _ rfl rfl ((((HO3.out.set_ 0 _).set_ 1 _).set_ 2 _).alloc _).blk Try.underlying29 rfl (by kernel_rfl) rfl ((term_zero (RS.term_2 HQ1.out HQ2.out) HS3.out HR3.out (by omega) HO3.out).alloc _)
end Go.Proofs.Ytolhahlnccekcaa
