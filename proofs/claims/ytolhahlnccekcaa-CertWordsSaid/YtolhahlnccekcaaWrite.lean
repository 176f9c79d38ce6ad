/-
  Walks of the certificate's writer.
-/
import Derived.Test.YtolhahlnccekcaaCertPure
import Derived.Test.YtolhahlnccekcaaRows
namespace Go.Proofs.Ytolhahlnccekcaa
open Go.RowKit

def byteD (c : Nat) : Dat := .int .u8 c
/-- the writer -/
def Wr (G : GG) (w : World) (wb : Nat) (row : Option Nat) (s : WS) : Prop :=
  ∃ v, v.ownBlock = row ∧ Blk w wb 72 #[v, .bool s.bad] ∧ Row 0 G w 5 1 v (s.b.map byteD) ∧ Com w G ∧ Out G wb
def Wrote (G : GG) (w : World) (wb : Nat) (row : Option Nat) (w' : World) (s' : WS) : Prop :=
  ∃ row', Wr G w' wb row' s' ∧ (row' = row ∨ ∃ g, row' = some g ∧ w.heap.size ≤ g) ∧ WFr wb row w w'

theorem info_u8 : (Try.prog.info? 5).map (fun i => (i.zero, i.size, i.bytes)) = some (some (.int .u8 0), 1, 1) := by kernel_rfl

section
variable {G : GG} {w w' w1 : World} {wb : Nat} {row row1 : Option Nat} {s s1 : WS}
theorem Wr.ne (h : Wr G w wb row s) : row ≠ some wb := by
  obtain ⟨v, h1, h2, h3, _, _⟩ := h
  rw [← h1]
  exact h3.ne_ob h2 (by decide)
theorem Wr.out (h : Wr G w wb row s) : ∀ g, row = some g → Out G g := by
  obtain ⟨v, h1, h2, h3, _, _⟩ := h
  intro g hg
  exact h3.out g (h1.trans hg)
theorem Wr.outWb (h : Wr G w wb row s) : Out G wb := by obtain ⟨v, h1, h2, h3, h4, h5⟩ := h; exact h5
theorem Wr.com (h : Wr G w wb row s) : Com w G := by obtain ⟨v, h1, h2, h3, h4, _⟩ := h; exact h4
theorem Wr.lt (h : Wr G w wb row s) : wb < w.heap.size := by obtain ⟨v, h1, h2, h3, h4, _⟩ := h; exact h2.lt
theorem Wr.step {t : Option Nat} (h : Wr G w wb row s) (k : w.grownBy w' t) (h1 : t ≠ some wb) (h2 : ∀ g, t = some g → row ≠ some g ∧ Out G g) : Wr G w' wb row s := by
  obtain ⟨v, e, hb, hr, hC, ho⟩ := h
  exact ⟨v, e, hb.grown k (fun e => h1 e.symm), hr.step k (fun g hg => by rw [e]; exact (h2 g hg).1), hC.grown k (fun g hg => (h2 g hg).2), ho⟩
theorem Wr.alloc (h : Wr G w wb row s) (o : Obj) : Wr G (w.alloc o) wb row s := h.step (galloc (grefl w none) o) (by simp) (fun _ e => by cases e)
theorem Wr.drew (h : Wr G w wb row s) : Wr G w.drew wb row s := h.step (gdrew (grefl w none)) (by simp) (fun _ e => by cases e)
theorem Wr.drewN (h : Wr G w wb row s) (n : Nat) : Wr G (w.drewN n) wb row s := h.step (gdrewN (grefl w none) n) (by simp) (fun _ e => by cases e)
theorem Wr.same (h : Wr G w wb row s) : Wrote G w wb row w s := ⟨row, h, .inl rfl, WFr.refl _ _ _⟩
/-- a block of another type isn't written -/
theorem Wr.keeps {b t : Nat} {cs : Array Value} (h : Wr G w wb row s) (k : WFr wb row w w') (hb : Blk w b t cs) (h1 : t ≠ 72) (h2 : t ≠ 5) : Blk w' b t cs := by
  obtain ⟨v, e, hwb, hr, hC, ho⟩ := h
  exact k.blk hb (hb.ne_ hwb h1) (fun e' => hr.ne_ob hb (fun e => h2 e.symm) (e.trans e'.symm))
theorem Wr.keepsOb {B b t : Nat} {cs : Array Value} (h : Wr G w wb row s) (k : WFr wb row w w') (hb : Ob B G w b t cs) (h1 : t ≠ 72) (h2 : t ≠ 5) : Ob B G w' b t cs := ⟨hb.new, h.keeps k hb.blk h1 h2, hb.out⟩
theorem Wrote.trans (h : Wrote G w wb row w1 s1) {s2 : WS} {w2 : World} (k : ∀ row1, Wr G w1 wb row1 s1 → Wrote G w1 wb row1 w2 s2) : Wrote G w wb row w2 s2 := by
  obtain ⟨row1, h1, hr, hf⟩ := h
  obtain ⟨row2, k1, kr, kf⟩ := k row1 h1
  refine ⟨row2, k1, ?_, hf.trans hr kf⟩
  rcases kr with rfl | ⟨g, rfl, hg⟩
  · exact hr
  · exact .inr ⟨g, rfl, Nat.le_trans hf.size hg⟩
theorem Wrote.then {s2 : WS} {w2 : World} (_ : Wr G w1 wb row1 s1) (hr : row1 = row ∨ ∃ g, row1 = some g ∧ w.heap.size ≤ g) (hf : WFr wb row w w1) (k : Wrote G w1 wb row1 w2 s2) : Wrote G w wb row w2 s2 := by
  obtain ⟨row2, k1, kr, kf⟩ := k
  refine ⟨row2, k1, ?_, hf.trans hr kf⟩
  rcases kr with rfl | ⟨g, rfl, hg⟩
  · exact hr
  · exact .inr ⟨g, rfl, Nat.le_trans hf.size hg⟩
theorem Wr.rowlt (h : Wr G w wb row s) : ∀ g, row = some g → g < w.heap.size := by
  obtain ⟨v, e, hb, hr, hC, ho⟩ := h
  intro g hg
  exact (hr.lt (e.trans hg)).2
theorem Wr.fresh (h : Wr G w wb row s) {o : Obj} {w' : World} (hg : (w.alloc o).grownBy w' (some w.heap.size)) : Wr G w' wb row s ∧ WFr wb row w w' :=
  ⟨(h.alloc o).step hg (by have := h.lt; simp; omega) (fun g e => by injection e with e; subst e; exact ⟨fun e => by have := h.rowlt _ e; omega, h.com.out (Nat.le_refl _)⟩),
    ((WFr.refl wb row w).alloc o).grown hg (fun g e => by injection e with e; omega)⟩
theorem Wr.wroteOb {s2 : WS} {w2 : World} {B b t : Nat} {cs : Array Value} (h : Wr G w wb row s) (k : Wrote G w wb row w2 s2) (hb : Ob B G w b t cs) (h1 : t ≠ 72) (h2 : t ≠ 5) : Ob B G w2 b t cs := by
  obtain ⟨_, _, _, hf⟩ := k
  exact h.keepsOb hf hb h1 h2
theorem Wr.cells (h : Wr G w wb row s) : ∃ a cap, (Value.slice a s.b.length cap).ownBlock = row ∧ w.cell? ⟨wb, 0, none⟩ = some (.slice a s.b.length cap) ∧ w.cell? ⟨wb, 1, none⟩ = some (.bool s.bad) ∧ w.frozen? ⟨wb, 0, none⟩ = false ∧ w.frozen? ⟨wb, 1, none⟩ = false ∧
    Row 0 G w 5 1 (.slice a s.b.length cap) (s.b.map byteD) ∧ Blk w wb 72 #[.slice a s.b.length cap, .bool s.bad] := by
  obtain ⟨v, e, hb, hr, hC, ho⟩ := h
  obtain ⟨a, cap, rfl⟩ := hr.form
  rw [List.length_map] at *
  exact ⟨a, cap, e, by simpa using hb.cell 0, by simpa using hb.cell 1, hb.frozen 0, hb.frozen 1, hr, hb⟩
end

/-- behind an append onto the writer's row, and the store of the row's new head -/
theorem wr_push {G : GG} {w w6 w7 : World} {wb : Nat} {row : Option Nat} {s : WS} {v v' : Value} {xs : List Nat} (hv : v.ownBlock = row) (hB : Blk w wb 72 #[v, .bool s.bad]) (hC : Com w G) (hO : Out G wb) (hne : row ≠ some wb) (hor : ∀ g, row = some g → Out G g)
    (h6 : w.grownBy w6 none) (hW7 : Row 0 G w7 5 1 v' (s.b.map byteD ++ xs.map byteD)) (hg : w6.grownBy w7 v.ownBlock) (hob : v'.ownBlock = v.ownBlock ∨ v'.ownBlock = some w6.heap.size) :
    Wrote G w wb row (w7.setCell ⟨wb, 0, none⟩ v') ⟨s.b ++ xs, s.bad⟩ := by
  subst hv
  have hB7 : Blk w7 wb 72 #[v, .bool s.bad] := (hB.grown h6 (by simp)).grown hg (fun e => hne e.symm)
  have hC7 : Com w7 G := (hC.grown h6 only_none).grown hg hor
  have hne' : v'.ownBlock ≠ some wb := hW7.ne_ob hB7 (by decide)
  refine ⟨v'.ownBlock, ⟨v', rfl, by simpa using hB7.set_ 0 v', ?_, hC7.set_ hO 0 v', hO⟩, ?_, ?_⟩
  · rw [List.map_append]; exact hW7.set_ hne' 0 v'
  · rcases hob with h | h
    · exact .inl h
    · exact .inr ⟨_, h, h6.size⟩
  · exact ((((WFr.refl wb v.ownBlock w).grown h6 (fun _ e => by cases e)).grown hg (fun g e => .inr (.inl e.symm))).grown (gset (grefl w7 (some wb)) wb 0 v' (.inl rfl)) (fun g e => by injection e with e; exact .inl e.symm))

theorem or128 (n : Int) (h0 : 0 ≤ n) : bits BinOp.or IntKind.u32 (n % 128) 128 = n % 128 + 128 := by
  obtain ⟨m, rfl⟩ := Int.eq_ofNat_of_zero_le h0
  have h : ∀ k, k < 128 → bits BinOp.or IntKind.u32 (k : Nat) 128 = (k : Int) + 128 := by decide +kernel
  have := h (m % 128) (Nat.mod_lt _ (by omega))
  simpa using this

set_option maxRecDepth 100000 in
set_option maxHeartbeats 400000 in
theorem wnumber_any (G : GG) (wb : Nat) (row : Option Nat) (s : WS) (n : Int) (hn0 : 0 ≤ n) (hn1 : n < 4294967296) (hlen : s.b.length ≤ 1099511627776) (w : World) (h : Wr G w wb row s) :
    Calls Try.prog 34 #[.pointer (some ⟨wb, 0, none⟩), .int .u32 n] w fun e w' => e = .returned (.tuple #[]) ∧ Wrote G w wb row w' (s.number n) := by
  have H := hid h
  clear h
  go_enter Try.func34, Try.ntmps34
  go_wp2_with fail
  go_loopw [1] (fun i wr => ∃ (f m : Nat) (s1 : WS), i = .int .u32 m ∧ f ≤ 4 ∧ m < 16 * 128 ^ f ∧ s1.b.length + f ≤ s.b.length + 4 ∧ (⟨s1.b ++ nb f m, s1.bad⟩ : WS) = s.number n ∧ Wrote G w wb row wr s1) (fun i _ => (intOf i).toNat)
  case atStart => exact ⟨4, n.toNat, s, by rw [Int.toNat_of_nonneg hn0], by omega, by omega, by omega, rfl, H.out.same⟩
  case round =>
    obtain ⟨f, m, s1, rfl, hf, hm, hl, hs, hW⟩ := hrel
    obtain ⟨row1, hW1, hr1, hF1⟩ := hW
    obtain ⟨a, cap, ho, c0, c1, f0, f1, hR, hB⟩ := hW1.cells
    obtain ⟨i0, hi0, hz0, hz1, hz2⟩ := info_parts info_u8
    have HW1 := hid hW1
    have HR1 := hid hr1
    have HF1 := hid hF1
    have HO := hid ho
    have HR := hid hR
    have HB := hid hB
    have HS := hid hs
    clear hW1 hr1 hF1 ho hR hB hs
    have hm2 : m < 4294967296 := by
      have : 128 ^ f ≤ 128 ^ 4 := Nat.pow_le_pow_right (by omega) hf
      omega
    by_cases hlt : 128 ≤ m
    · obtain ⟨f', rfl⟩ : ∃ f', f = f' + 1 := ⟨f - 1, by
        cases f with
        | zero => simp at hm; omega
        | succ f => rfl⟩
      have hor := or128 (m : Int) (by omega)
      obtain ⟨x, hx⟩ : ∃ x : Nat, x = m % 128 + 128 := ⟨_, rfl⟩
      have hxi : (m : Int) % 128 + 128 = (x : Int) := by omega
      have HXI := hid hxi
      have HX := hid hx
      clear hx hxi
      go_wp2_with (at_builtin; rw [HXI.out]; refine wpList_append_row _ rfl (.tmp 12) (.tmp 17) 22 rfl i0 _ 1 Try.underlying22 hi0 hz0 hz1 hz2 rfl (by omega) (HR.out.alloc _) (HW1.out.com.alloc _) [byteD x] [.int .u8 x] (Src.blk (Blk.new wr 5 #[.int .u8 x]) 1) (.int (WalkArith.wf_u8 (by first | omega | (have := HX.out; omega))) .nil) rfl ?_ (Nat.zero_le _) ?_; (simp only [List.length_map, List.length_cons, List.length_nil]; omega); intro v' w7 hW7 hg7 hob7; obtain ⟨va', vc', rfl⟩ := hW7.form; simp only [List.length_append, List.length_cons, List.length_nil, Nat.zero_add, List.length_map] at hW7 hob7 hg7; have HW7 := hid hW7; have HG7 := hid hg7; have HOB7 := hid hob7; have hB7 := (HB.out.alloc (Obj.cells #[.int .u8 x] 5)).grown hg7 (fun e => HW1.out.ne (HO.out.symm.trans e.symm)); have d0 := hB7.cell 0; have g0 := hB7.frozen 0; simp at d0; clear hW7 hg7 hob7 hB7)
      have hpush := wr_push HO.out HB.out HW1.out.com HW1.out.outWb HW1.out.ne HW1.out.out (galloc (grefl wr none) _) (xs := [x]) HW7.out HG7.out HOB7.out
      refine ⟨⟨f', m / 128, ⟨s1.b ++ [x], s1.bad⟩, by simp, by omega, ?_, by simp; omega, ?_, Wrote.then HW1.out HR1.out HF1.out hpush⟩, by simp [intOf]; omega⟩
      · rw [Nat.pow_succ] at hm; omega
      · rw [← HS.out, nb, if_neg (by omega), HX.out]; simp
    · have hnb : nb f m = [m] := by
        cases f with
        | zero => rfl
        | succ f => rw [nb, if_pos (by omega)]
      have HNB := hid hnb
      clear hnb
      go_wp2_with (at_builtin; refine wpList_append_row _ rfl (.tmp 25) (.tmp 28) 22 rfl i0 _ 1 Try.underlying22 hi0 hz0 hz1 hz2 rfl (by omega) (HR.out.alloc _) (HW1.out.com.alloc _) [byteD m] [.int .u8 m] (Src.blk (Blk.new wr 5 #[.int .u8 m]) 1) (.int (WalkArith.wf_u8 (by first | omega | (have := HX.out; omega))) .nil) rfl ?_ (Nat.zero_le _) ?_; (simp only [List.length_map, List.length_cons, List.length_nil]; omega); intro v' w7 hW7 hg7 hob7; obtain ⟨va', vc', rfl⟩ := hW7.form; simp only [List.length_append, List.length_cons, List.length_nil, Nat.zero_add, List.length_map] at hW7 hob7 hg7; have HW7 := hid hW7; have HG7 := hid hg7; have HOB7 := hid hob7; have hB7 := (HB.out.alloc (Obj.cells #[.int .u8 m] 5)).grown hg7 (fun e => HW1.out.ne (HO.out.symm.trans e.symm)); have d0 := hB7.cell 0; have g0 := hB7.frozen 0; simp at d0; clear hW7 hg7 hob7 hB7)
      have hpush := wr_push HO.out HB.out HW1.out.com HW1.out.outWb HW1.out.ne HW1.out.out (galloc (grefl wr none) _) (xs := [m]) HW7.out HG7.out HOB7.out
      go_end0
      refine ⟨rfl, ?_⟩
      rw [← HS.out, HNB.out]
      exact Wrote.then HW1.out HR1.out HF1.out hpush
theorem wr_flag {G : GG} {w : World} {wb : Nat} {row : Option Nat} {s : WS} (h : Wr G w wb row s) (b : Bool) : Wrote G w wb row (w.setCell ⟨wb, 1, none⟩ (.bool b)) ⟨s.b, b⟩ := by
  have hne := h.ne
  obtain ⟨v, e, hb, hr, hC, ho⟩ := h
  exact ⟨row, ⟨v, e, by simpa using hb.set_ 1 (.bool b), hr.set_ (by rw [e]; exact hne) 1 _, hC.set_ ho 1 _, ho⟩, .inl rfl, (WFr.refl _ _ _).grown (gset (grefl w (some wb)) wb 1 _ (.inl rfl)) (fun g e => by injection e with e; exact .inl e.symm)⟩
theorem wr_spoil {G : GG} {w : World} {wb : Nat} {row : Option Nat} {s : WS} (h : Wr G w wb row s) : Wrote G w wb row (w.setCell ⟨wb, 1, none⟩ (.bool true)) s.spoil := wr_flag h true

set_option maxRecDepth 100000 in
set_option maxHeartbeats 400000 in
theorem wcount_any (G : GG) (wb : Nat) (row : Option Nat) (s : WS) (n : Int) (hn0 : -9223372036854775808 ≤ n) (hn1 : n ≤ 9223372036854775807) (hlen : s.b.length ≤ 1099511627776) (w : World) (h : Wr G w wb row s) :
    Calls Try.prog 26 #[.pointer (some ⟨wb, 0, none⟩), .int .i64 n] w fun e w' => e = .returned (.tuple #[]) ∧ Wrote G w wb row w' (s.count n) := by
  obtain ⟨a, cap, ho, c0, c1, f0, f1, hR, hB⟩ := h.cells
  have HP := hid (wr_spoil h)
  have H := hid h
  clear h hR hB ho
  by_cases h1 : n < 0
  · have hs : s.count n = s.spoil := by unfold WS.count; rw [if_pos (by omega)]
    have HS := hid hs
    clear hs
    go_enter Try.func26, Try.ntmps26
    go_wp2_with fail
    first | go_end0 | refine bodyPost_ret (results_none rfl _ _ _) rfl ?_
    exact ⟨rfl, by rw [HS.out]; exact HP.out⟩
  · by_cases h2 : 2147483647 < n
    · have hs : s.count n = s.spoil := by unfold WS.count; rw [if_pos (by omega)]
      have HS := hid hs
      clear hs
      go_enter Try.func26, Try.ntmps26
      go_wp2_with fail
      first | go_end0 | refine bodyPost_ret (results_none rfl _ _ _) rfl ?_
      exact ⟨rfl, by rw [HS.out]; exact HP.out⟩
    · have hs : s.count n = s.number (n) := by unfold WS.count; rw [if_neg (by omega)]
      have HS := hid hs
      clear hs
      go_enter Try.func26, Try.ntmps26
      go_wp2_with fail
      refine (wnumber_any G wb row s (n) (by omega) (by omega) hlen w H.out).mono ?_
      rintro e w' ⟨rfl, hw⟩
      have HW := hid hw
      clear hw
      go_wp2_with fail
      first | go_end0 | refine bodyPost_ret (results_none rfl _ _ _) rfl ?_
      exact ⟨rfl, by rw [HS.out]; exact HW.out⟩

set_option maxRecDepth 100000 in
set_option maxHeartbeats 400000 in
theorem wplace_any (G : GG) (wb : Nat) (row : Option Nat) (s : WS) (n : Int) (hn0 : -9223372036854775808 ≤ n) (hn1 : n ≤ 9223372036854775807) (hlen : s.b.length ≤ 1099511627776) (w : World) (h : Wr G w wb row s) :
    Calls Try.prog 27 #[.pointer (some ⟨wb, 0, none⟩), .int .i64 n] w fun e w' => e = .returned (.tuple #[]) ∧ Wrote G w wb row w' (s.place n) := by
  obtain ⟨a, cap, ho, c0, c1, f0, f1, hR, hB⟩ := h.cells
  have HP := hid (wr_spoil h)
  have H := hid h
  clear h hR hB ho
  by_cases h1 : n < -1
  · have hs : s.place n = s.spoil := by unfold WS.place; rw [if_pos (by omega)]
    have HS := hid hs
    clear hs
    go_enter Try.func27, Try.ntmps27
    go_wp2_with fail
    first | go_end0 | refine bodyPost_ret (results_none rfl _ _ _) rfl ?_
    exact ⟨rfl, by rw [HS.out]; exact HP.out⟩
  · by_cases h2 : 2147483647 < n
    · have hs : s.place n = s.spoil := by unfold WS.place; rw [if_pos (by omega)]
      have HS := hid hs
      clear hs
      go_enter Try.func27, Try.ntmps27
      go_wp2_with fail
      first | go_end0 | refine bodyPost_ret (results_none rfl _ _ _) rfl ?_
      exact ⟨rfl, by rw [HS.out]; exact HP.out⟩
    · have hs : s.place n = s.number (n + 1) := by unfold WS.place; rw [if_neg (by omega)]
      have HS := hid hs
      clear hs
      go_enter Try.func27, Try.ntmps27
      go_wp2_with fail
      refine (wnumber_any G wb row s (n + 1) (by omega) (by omega) hlen w H.out).mono ?_
      rintro e w' ⟨rfl, hw⟩
      have HW := hid hw
      clear hw
      go_wp2_with fail
      first | go_end0 | refine bodyPost_ret (results_none rfl _ _ _) rfl ?_
      exact ⟨rfl, by rw [HS.out]; exact HW.out⟩

set_option maxHeartbeats 400000 in
theorem wdeep_any (G : GG) (wb : Nat) (row : Option Nat) (s : WS) (d : Int) (hlen : s.b.length ≤ 1099511627776) (w : World) (h : Wr G w wb row s) :
    Calls Try.prog 36 #[.pointer (some ⟨wb, 0, none⟩), .int .i64 d] w fun e w' => e = .returned (.bool (s.deep d).bad) ∧ Wrote G w wb row w' (s.deep d) := by
  obtain ⟨a, cap, ho, c0, c1, f0, f1, hR, hB⟩ := h.cells
  have HP := hid (wr_spoil h)
  have H := hid h.same
  clear h hR hB ho
  by_cases h1 : 2048 < d
  · have hs : s.deep d = s.spoil := by unfold WS.deep; rw [if_pos (.inl h1)]
    have HS := hid hs
    clear hs
    go_enter Try.func36, Try.ntmps36
    go_wp2_with fail
    go_ret
    rw [HS.out]
    exact ⟨rfl, HP.out⟩
  · by_cases h2 : 1048576 < (s.b.length : Int)
    · have hs : s.deep d = s.spoil := by unfold WS.deep; rw [if_pos (.inr h2)]
      have HS := hid hs
      clear hs
      go_enter Try.func36, Try.ntmps36
      go_wp2_with fail
      go_ret
      rw [HS.out]
      exact ⟨rfl, HP.out⟩
    · have hs : s.deep d = s := by unfold WS.deep; rw [if_neg (by omega)]
      have HS := hid hs
      clear hs
      go_enter Try.func36, Try.ntmps36
      go_wp2_with fail
      go_ret
      rw [HS.out]
      exact ⟨rfl, H.out⟩

end Go.Proofs.Ytolhahlnccekcaa
