/-
  Walks of the certificate's reader: whatever the bytes, each of its calls ends, with a number in its range, and turns nothing but the reader.
-/
import Derived.Test.YtolhahlnccekcaaCertPure
import Derived.Test.YtolhahlnccekcaaRows
namespace Go.Proofs.Ytolhahlnccekcaa
open Go.RowKit

def GBytes (G : GG) (a : Option Addr) (l : List Nat) : Prop :=
  0 < l.length → ∃ b off, a = some ⟨b, off, none⟩ ∧ ∀ (i c : Nat), l[i]? = some c → c < 256 ∧ G b (off + i) = some (.int .u8 c)

/-- the reader: at most L bytes are left -/
def Rd (G : GG) (w : World) (rb L : Nat) (s : RS) : Prop :=
  ∃ a cap, Blk w rb 52 #[.slice a s.b.length cap, .bool s.bad] ∧ s.b.length ≤ L ∧ s.b.length ≤ cap ∧ GBytes G a s.b

theorem GBytes.ext {G G' : GG} {B : Nat} (he : Ext B G G') {a : Option Addr} {l : List Nat} (h : GBytes G a l) : GBytes G' a l := fun hl => by
  obtain ⟨b, off, e, h⟩ := h hl
  refine ⟨b, off, e, fun i c hi => ?_⟩
  obtain ⟨hc, hv⟩ := h i c hi
  exact ⟨hc, he.le _ _ _ hv⟩
section
variable {G G' : GG} {w w' : World} {rb L : Nat} {s : RS}
theorem Rd.call {r : Option Nat} (h : Rd G w rb L s) (k : St G w r G' w') (hr : r ≠ some rb) : Rd G' w' rb L s := by
  obtain ⟨a, cap, h1, h2, h3, h4⟩ := h
  exact ⟨a, cap, h1.grown k.gr (fun e => hr e.symm), h2, h3, h4.ext k.ext⟩
theorem Rd.step {r : Option Nat} (h : Rd G w rb L s) (k : w.grownBy w' r) (hr : r ≠ some rb) : Rd G w' rb L s := by
  obtain ⟨a, cap, h1, h2, h3, h4⟩ := h
  exact ⟨a, cap, h1.grown k (fun e => hr e.symm), h2, h3, h4⟩
theorem Rd.alloc (h : Rd G w rb L s) (o : Obj) : Rd G (w.alloc o) rb L s := h.step (galloc (grefl w none) o) (by simp)
theorem Rd.drew (h : Rd G w rb L s) : Rd G w.drew rb L s := h.step (gdrew (grefl w none)) (by simp)
theorem Rd.far (h : Rd G w rb L s) {b : Nat} (hb : rb ≠ b) (i : Nat) (u : Value) : Rd G (w.setCell ⟨b, i, none⟩ u) rb L s :=
  h.step (gset (grefl w (some b)) b i u (.inl rfl)) (by simpa using fun e => hb e.symm)
theorem Rd.laid {B : Nat} (h : Rd G w rb L s) (he : Ext B G G') : Rd G' w rb L s := by
  obtain ⟨a, cap, h1, h2, h3, h4⟩ := h
  exact ⟨a, cap, h1, h2, h3, h4.ext he⟩
theorem Rd.len (h : Rd G w rb L s) : s.b.length ≤ L := by obtain ⟨a, cap, h1, h2, h3, h4⟩ := h; exact h2
end

/-- a call of the reader that tells a number -/
def NumPost (k : IntKind) (r : Int × RS) (G : GG) (w : World) (rb L : Nat) (e : Ending) (w' : World) : Prop :=
  e = .returned (.int k r.1) ∧ Rd G w' rb L r.2 ∧ St G w (some rb) G w'

theorem num_end1 {k : IntKind} {r : Int × RS} {G : GG} {w : World} {rb L : Nat} {s : RS} {a : Option Addr} {cap : Nat} {u : Value} {bad : Bool} (hb : Blk w rb 52 #[.slice a s.b.length cap, u]) (hl : s.b.length ≤ L) (hc : s.b.length ≤ cap)
    (hg : GBytes G a s.b) (hS : St G w (some rb) G w) (n : Int) (h1 : r = (n, ⟨s.b, bad⟩)) : NumPost k r G w rb L (.returned (.int k n)) (w.setCell ⟨rb, 1, none⟩ (.bool bad)) := by
  subst h1
  exact ⟨rfl, ⟨a, cap, by simpa using hb.set_ 1 (.bool bad), hl, hc, hg⟩, hS.set_r _ _⟩

theorem num_end2 {k : IntKind} {r : Int × RS} {G : GG} {w : World} {rb L : Nat} {l : List Nat} {a : Option Addr} {n : Int} {len cap : Nat} {u u' : Value} {bad : Bool} (hb : Blk w rb 52 #[u', u]) (hS : St G w (some rb) G w)
    (h1 : r = (n, ⟨l, bad⟩)) (he : len = l.length) (hl : l.length ≤ L) (hc : l.length ≤ cap) (hg : GBytes G a l) : NumPost k r G w rb L (.returned (.int k n)) ((w.setCell ⟨rb, 1, none⟩ (.bool bad)).setCell ⟨rb, 0, none⟩ (.slice a len cap)) := by
  subst h1 he
  exact ⟨rfl, ⟨a, cap, by simpa using (hb.set_ 1 (.bool bad)).set_ 0 (.slice a l.length cap), hl, hc, hg⟩, (hS.set_r _ _).set_r _ _⟩

theorem gbytes_cut {G : GG} {b off k cap : Nat} {l : List Nat} (h : GBytes G (some ⟨b, off, none⟩) l) (hc : l.length ≤ cap) : GBytes G (if cap = k then some ⟨b, off, none⟩ else some ⟨b, off + k, none⟩) (l.drop k) := by
  intro hl
  rw [List.length_drop] at hl
  obtain ⟨b', off', he, h⟩ := h (by omega)
  cases he
  rw [if_neg (by omega)]
  refine ⟨b, off + k, rfl, fun i c hi => ?_⟩
  rw [List.getElem?_drop] at hi
  obtain ⟨h1, h2⟩ := h (k + i) c hi
  exact ⟨h1, by rw [← h2]; congr 1; omega⟩

theorem num_cons {k : Nat} {m : Int} {l : List Nat} {c : Nat} (hc : l[k]? = some c) (hm : m ≤ 4294967295) :
    num k m (l.drop k) = if c < 128 then some (bits BinOp.or IntKind.u64 m (IntKind.u64.wrap ((c : Int) % 128 * 2 ^ (7 * k))), l.drop (k + 1)) else if 7 < k then none else num (k + 1) (bits BinOp.or IntKind.u64 m (IntKind.u64.wrap ((c : Int) % 128 * 2 ^ (7 * k)))) (l.drop (k + 1)) := by
  obtain ⟨hk, rfl⟩ := List.getElem?_eq_some_iff.1 hc
  rw [List.drop_eq_getElem_cons hk, num, if_neg (by omega)]

theorem number_some {s : RS} {k : Nat} {m n : Int} {l : List Nat} (h : num 0 0 s.b = num k m (s.b.drop k)) (h1 : num k m (s.b.drop k) = some (n, l)) (bad : Bool) (hb : bad = (s.bad || decide (4294967295 < n))) : s.number = (n % 4294967296, ⟨l, bad⟩) := by
  unfold RS.number; rw [h, h1, hb]
theorem number_none {s : RS} {k : Nat} {m : Int} (h : num 0 0 s.b = num k m (s.b.drop k)) (h1 : num k m (s.b.drop k) = none) : s.number = (0, ⟨s.b, true⟩) := by
  unfold RS.number; rw [h, h1]; rfl

set_option maxRecDepth 100000 in
set_option maxHeartbeats 400000 in
theorem number_any (G) (rb L : Nat) (s : RS) (w : World) (h : Rd G w rb L s) (hS : St G w (some rb) G w) :
    Calls Try.prog 22 #[.pointer (some ⟨rb, 0, none⟩)] w (NumPost .u32 s.number G w rb L) := by
  obtain ⟨a, cap, hb, h1, h2, h3⟩ := h
  have c0 := hb.cell 0
  have c1 := hb.cell 1
  have f0 := hb.frozen 0
  have f1 := hb.frozen 1
  simp at c0 c1
  have HS := hid hS
  have H3 := hid h3
  have HB := hid hb
  clear hS h3 hb
  go_enter Try.func22, Try.ntmps22
  go_wp2_with fail
  go_loop [3, 4, 5] (fun n i _ => ∃ (k : Nat) (m : Int), k ≤ 8 ∧ i = .int .i64 k ∧ n = .int .u64 m ∧ 0 ≤ m ∧ m < 18446744073709551616 ∧ num 0 0 s.b = num k m (s.b.drop k)) (fun _ i _ => 10 - (intOf i).toNat)
  case atStart => exact ⟨0, 0, by omega, rfl, rfl, by omega, by omega, rfl⟩
  case round =>
    obtain ⟨k, m, hk, rfl, rfl, hm0, hm1, hnum⟩ := hrel
    have HN := hid hnum
    clear hnum
    by_cases hlt : k < s.b.length
    · obtain ⟨b, off, rfl, hc⟩ := H3.out (by omega)
      obtain ⟨hc1, hc2⟩ := hc k s.b[k] (List.getElem?_eq_getElem hlt)
      obtain ⟨c, hcc⟩ : ∃ c, c = s.b[k] := ⟨_, rfl⟩
      rw [← hcc] at hc1 hc2
      have HC := hid (show s.b[k]? = some c by rw [hcc]; exact List.getElem?_eq_getElem hlt)
      clear hcc
      have hcell : w.cell? ⟨b, off + k, none⟩ = some (.int .u8 c) := HS.out.com _ _ _ hc2
      clear hc hc2
      by_cases hm : m ≤ 4294967295
      · have HNC := hid (num_cons HC.out hm)
        cases hbad : s.bad <;> rw [hbad] at c1
        all_goals
          have HBAD := hid hbad
          clear hbad
          go_wp2_with fail
        all_goals try
          case roundEnd =>
            have ho := or_u64 m (IntKind.u64.wrap (↑c % 128 * 2 ^ (7 * k)))
            refine ⟨⟨k + 1, _, by omega, by go_num, rfl, ho.1, ho.2, ?_⟩, by simp [intOf]; omega⟩
            rw [HN.out, HNC.out, if_neg (by omega), if_neg (by omega)]
        all_goals
          go_ret
          show NumPost .u32 _ G w rb L (.returned (.int .u32 _)) _
          first
            | (with_reducible refine num_end1 HB.out h1 h2 H3.out HS.out _ ?_); exact number_none HN.out (by rw [HNC.out, if_neg (by omega), if_pos (by omega)])
            | (with_reducible refine num_end2 HB.out HS.out (number_some HN.out (HNC.out.trans (if_pos (by omega))) _ ?_) ?_ ?_ ?_ ?_) <;> first | (rw [HBAD.out]; rfl) | (simp; done) | (simp; omega) | (have := gbytes_cut (k := k + 1) H3.out h2; simpa [*] using this)
      · have HNO : num k m (s.b.drop k) = none := by
          rw [List.drop_eq_getElem_cons hlt, num, if_pos (by omega)]
        have HNO := hid HNO
        go_wp2_with fail
        all_goals
          go_ret
          exact num_end1 HB.out h1 h2 H3.out HS.out 0 (number_none HN.out HNO.out)
    · have HNO : num k m (s.b.drop k) = none := by
        rw [List.drop_eq_nil_of_le (by omega), num]
      have HNO := hid HNO
      go_wp2_with fail
      all_goals
        go_ret
        exact num_end1 HB.out h1 h2 H3.out HS.out 0 (number_none HN.out HNO.out)

theorem num_grown {k : IntKind} {r : Int × RS} {G : GG} {w w1 : World} {rb L : Nat} {s1 : RS} {bad : Bool} (h : Rd G w1 rb L s1) (hS : St G w (some rb) G w1) (n : Int) (h1 : r = (n, ⟨s1.b, bad⟩)) :
    NumPost k r G w rb L (.returned (.int k n)) (w1.setCell ⟨rb, 1, none⟩ (.bool bad)) := by
  obtain ⟨a, cap, hb, h2, h3, h4⟩ := h
  subst h1
  exact ⟨rfl, ⟨a, cap, by simpa using hb.set_ 1 (.bool bad), h2, h3, h4⟩, hS.set_r _ _⟩

/-- what a walk wants of the reader -/
theorem Rd.cells {G : GG} {w : World} {rb L : Nat} {s : RS} (h : Rd G w rb L s) : ∃ a cap, w.cell? ⟨rb, 0, none⟩ = some (.slice a s.b.length cap) ∧ w.cell? ⟨rb, 1, none⟩ = some (.bool s.bad) ∧ w.frozen? ⟨rb, 0, none⟩ = false ∧ w.frozen? ⟨rb, 1, none⟩ = false ∧ s.b.length ≤ L := by
  obtain ⟨a, cap, hb, h1, h2, h3⟩ := h
  exact ⟨a, cap, by simpa using hb.cell 0, by simpa using hb.cell 1, hb.frozen 0, hb.frozen 1, h1⟩

set_option maxHeartbeats 400000 in
theorem count_any (G) (rb L : Nat) (s : RS) (w : World) (h : Rd G w rb L s) (hS : St G w (some rb) G w) :
    Calls Try.prog 13 #[.pointer (some ⟨rb, 0, none⟩)] w (NumPost .i64 s.count G w rb L) := by
  have H := hid h
  have HS := hid hS
  clear h hS
  go_enter Try.func13, Try.ntmps13
  go_wp2_with fail
  refine (number_any G rb L s _ H.out HS.out).mono ?_
  rintro e w1 ⟨rfl, hr, hg⟩
  have hb := s.number_range
  generalize hq : s.number = q at *
  obtain ⟨n, s1⟩ := q
  obtain ⟨n0, n1⟩ := hb
  simp only at n0 n1 hr
  obtain ⟨a, cap, c0, c1, f0, f1, hl⟩ := hr.cells
  have HR := hid hr
  have HG := hid hg
  have HQ := hid hq
  clear hr hg hq
  go_wp2_with fail
  · go_ret
    exact num_grown HR.out HG.out _ (by unfold RS.count; rw [HQ.out]; simp only; rw [if_pos (by omega)]; rfl)
  · go_ret
    have hc : s.count = (n, s1) := by unfold RS.count; rw [HQ.out]; simp only; rw [if_neg (by omega)]
    exact ⟨by rw [hc]; rfl, by rw [hc]; exact HR.out, HG.out⟩

set_option maxHeartbeats 400000 in
theorem place_any (G) (rb L : Nat) (s : RS) (w : World) (h : Rd G w rb L s) (hS : St G w (some rb) G w) :
    Calls Try.prog 12 #[.pointer (some ⟨rb, 0, none⟩)] w (NumPost .i64 s.place G w rb L) := by
  have H := hid h
  have HS := hid hS
  clear h hS
  go_enter Try.func12, Try.ntmps12
  go_wp2_with fail
  refine (number_any G rb L s _ H.out HS.out).mono ?_
  rintro e w1 ⟨rfl, hr, hg⟩
  have hb := s.number_range
  generalize hq : s.number = q at *
  obtain ⟨n, s1⟩ := q
  obtain ⟨n0, n1⟩ := hb
  simp only at n0 n1 hr
  obtain ⟨a, cap, c0, c1, f0, f1, hl⟩ := hr.cells
  have HR := hid hr
  have HG := hid hg
  have HQ := hid hq
  clear hr hg hq
  go_wp2_with fail
  · go_ret
    exact num_grown HR.out HG.out _ (by unfold RS.place; rw [HQ.out]; simp only; rw [if_pos (by omega)]; rfl)
  · go_ret
    have hc : s.place = (n - 1, s1) := by unfold RS.place; rw [HQ.out]; simp only; rw [if_neg (by omega)]
    exact ⟨by rw [hc]; rfl, by rw [hc]; exact HR.out, HG.out⟩

set_option maxHeartbeats 400000 in
theorem many_any (G) (rb L : Nat) (s : RS) (w : World) (h : Rd G w rb L s) (hS : St G w (some rb) G w) :
    Calls Try.prog 11 #[.pointer (some ⟨rb, 0, none⟩)] w (NumPost .i64 s.many G w rb L) := by
  have H := hid h
  have HS := hid hS
  clear h hS
  go_enter Try.func11, Try.ntmps11
  go_wp2_with fail
  refine (count_any G rb L s _ H.out HS.out).mono ?_
  rintro e w1 ⟨rfl, hr, hg⟩
  have hb := s.count_range
  generalize hq : s.count = q at *
  obtain ⟨n, s1⟩ := q
  obtain ⟨n0, n1⟩ := hb
  simp only at n0 n1 hr
  obtain ⟨a, cap, c0, c1, f0, f1, hl⟩ := hr.cells
  have HR := hid hr
  have HG := hid hg
  have HQ := hid hq
  clear hr hg hq
  cases hbad : s1.bad
  all_goals
    rw [hbad] at c1
    have HB := hid hbad
    clear hbad
  · go_wp2_with fail
    all_goals go_ret
    · exact num_grown HR.out HG.out _ (RS.many_1 HQ.out (by omega))
    · have hc : s.many = (n, s1) := RS.many_2 HQ.out (by omega) HB.out
      exact ⟨by rw [hc]; rfl, by rw [hc]; exact HR.out, HG.out⟩
  · go_wp2_with fail
    all_goals go_ret
    · exact num_grown HR.out HG.out _ (RS.many_1 HQ.out (by omega))
    · have hc : s.many = (0, s1) := RS.many_3 HQ.out (by omega) HB.out
      exact ⟨by rw [hc]; rfl, by rw [hc]; exact HR.out, HG.out⟩

set_option maxHeartbeats 400000 in
theorem deep_any (G) (rb L : Nat) (s : RS) (w : World) (h : Rd G w rb L s) (hS : St G w (some rb) G w) (d : Int) :
    Calls Try.prog 24 #[.pointer (some ⟨rb, 0, none⟩), .int .i64 d] w (fun e w' => e = .returned (.bool (s.deep d).1) ∧ Rd G w' rb L (s.deep d).2 ∧ St G w (some rb) G w') := by
  obtain ⟨a, cap, c0, c1, f0, f1, hl⟩ := h.cells
  have H := hid h
  have HS := hid hS
  clear h hS
  go_enter Try.func24, Try.ntmps24
  go_wp2_with fail
  · go_ret
    have hc : s.deep d = (true, ⟨s.b, true⟩) := by unfold RS.deep; simp only; rw [if_pos (by omega)]; rfl
    obtain ⟨_, h1, h2⟩ := num_grown (k := .i64) (r := (0, ⟨s.b, true⟩)) (bad := true) H.out HS.out 0 rfl
    rw [hc]
    exact ⟨rfl, h1, h2⟩
  · go_ret
    have hc : s.deep d = (s.bad, s) := by unfold RS.deep; simp only; rw [if_neg (by omega)]
    rw [hc]
    exact ⟨rfl, H.out, HS.out⟩

end Go.Proofs.Ytolhahlnccekcaa
