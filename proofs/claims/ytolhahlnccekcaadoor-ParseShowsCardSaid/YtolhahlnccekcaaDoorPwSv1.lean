/-
  Walks of the first way: a number's digits.
-/
import Derived.Test.YtolhahlnccekcaaDoorPwShelf
import Derived.Test.YtolhahlnccekcaaDoorPwFacts
import Derived.Lib.AppendIntMem
import Derived.Test.YtolhahlnccekcaaDoorPwS5
import Derived.Test.YtolhahlnccekcaaDoorPwA21
namespace Go.Proofs.YtolhahlnccekcaaDoor
open Go.RowKit Go.Sort Go.Lib Go.Shelf
set_option linter.unusedVariables false
theorem putRow0 (w : World) (o : Obj) (dk : Array UInt8) (k : Nat) : ∃ os, (putRow (fun (b : UInt8) => Value.int .u8 (b.toNat : Int)) (w.alloc o) w.heap.size 0 dk).drewN k = grow (w.drewN k) os := by
  rw [alloc_eq_grow]
  obtain ⟨os', _, e⟩ := putRow_grow_new (fun (b : UInt8) => Value.int .u8 (b.toNat : Int)) w #[o] w.heap.size 0 dk (Nat.le_refl _)
  exact ⟨os', by rw [e]; rfl⟩
/-- the powers of ten lie where they should -/
def PowAt (w : World) : Prop := ∀ i : Nat, i < 20 → w.cell? ⟨5, i, none⟩ = some (.int .u64 ((10 ^ i : Nat) : Int))
theorem PowAt.alloc {w : World} (h : PowAt w) (o : Obj) : PowAt (w.alloc o) := fun i hi => by
  have hlt : 5 < w.heap.size := by
    rcases Nat.lt_or_ge 5 w.heap.size with h' | h'
    · exact h'
    · have := h i hi
      simp [World.cell?, Array.getElem?_eq_none h'] at this
  exact (World.cell?_alloc_lt w o (a := ⟨5, i, none⟩) hlt).trans (h i hi)
set_option maxHeartbeats 2000000 in
set_option maxRecDepth 100000 in
theorem numDigits_walk (u : Nat) (h1 : 1 ≤ u) (h2 : u < 18446744073709551616) (w : World) (htab : PowAt w) :
    Calls Tryd.prog 134 #[.int .u64 u] w fun e w' => e = .returned (.int .i64 (Lib.nDigits u)) ∧ w' = w := by
  obtain ⟨hnd, h19⟩ := Lib.numDigits_eq u h1 h2
  have hL : Lib.bitLen u ≤ 64 := Lib.bitLen_le u 64 (Nat.le_refl _) h2
  have hcell := htab (Lib.l10 (Lib.bitLen u)) (by omega)
  have hto : ((u : Int)).toNat = u := by omega
  generalize hq : Lib.l10 (Lib.bitLen u) = q at hnd h19 hcell
  generalize hT : 10 ^ q = T at hnd hcell
  have h20 : q < 20 := by omega
  have Hnd := Lib.hid hnd
  clear hnd htab
  go_enter Tryd.func134, Tryd.ntmps134
  go_wp2_with (first
    | (go_at_call 154; refine (Tryd.bits_Len64 _ _ (by omega) (by omega)).mono ?_; rintro e w' ⟨rfl, rfl⟩)
    | (go_at_call 153; refine (Tryd.internal_strconv_log10Pow2 _ (by first | exact hL | (rw [hto]; exact hL)) _).mono ?_; rintro e w' ⟨rfl, rfl⟩)
    | (go_at_call 155; refine (Tryd.internal_strconv_bool2_int _ _).mono ?_; rintro e w' ⟨rfl, rfl⟩))
  all_goals go_ret
  all_goals (
    refine ⟨?_, rfl⟩
    have hnd := Hnd.out
    congr 2
    split at hnd <;> simp_all <;> omega)
set_option maxHeartbeats 6400000 in
set_option maxRecDepth 100000 in
theorem formatUint_walk (u : Nat) (hu : u ≤ 4294967295) (w : World) (htab : PowAt w) :
    Calls Tryd.prog 115 #[.int .u64 u, .int .i64 10] w fun e w' => e = .returned (.string ⟨(Lib.decDigits u).toArray⟩) ∧ ∃ k os, w' = grow (w.drewN k) os := by
  by_cases hs : u < 100
  · go_enter Tryd.func115, Tryd.ntmps115
    go_wp2_with (go_at_call 133; refine (Tryd.internal_strconv_small u hs _).mono ?_; rintro e w' ⟨rfl, rfl⟩)
    go_ret
    exact ⟨rfl, 0, #[], by simp [World.drewN_zero]⟩
  · have hu1 : 1 ≤ u := by omega
    have hu64 : u < 18446744073709551616 := by omega
    have hnd20 : Lib.nDigits u ≤ 20 := by have := Lib.numDigits_eq u hu1 hu64; split at this <;> omega
    have hb3 : Lib.nDigits u ≤ 23 := by omega
    have hal : Tryd.prog.arrayLen 178 = 24 := by kernel_rfl
    have hsl1 : ∀ W, (Instr.sliceAt 178 (.pointer (some ⟨w.heap.size, 0, none⟩)) none (some (.int .i64 (Lib.nDigits u : Int))) none).run Tryd.prog W = .ok (.slice (some ⟨w.heap.size, 0, none⟩) (Lib.nDigits u) 24) W := fun W => by
      rw [run_sliceAt_array_h W 178 ⟨w.heap.size, 0, none⟩ (by kernel_rfl) .i64 (Lib.nDigits u : Int) (by omega) (by rw [hal]; omega)]
      go_simp
    have hH0 := Lib.holds_zero0 w 178 (Lib.nDigits u) (by omega)
    have hfmt := Tryd.internal_strconv_formatBase10 w.heap.size 0 24 u (Array.replicate (Lib.nDigits u) 0) (w.alloc (.cells Lib.zeros24 178)) hH0 (by rw [Array.size_replicate]; exact Lib.lt_pow_nDigits u) hu64 (by rw [Array.size_replicate]; omega)
    rw [Array.size_replicate] at hfmt
    have HH0 := Lib.hid hH0
    clear hH0 hal
    go_enter Tryd.func115, Tryd.ntmps115
    go_wp2_with (go_at_call 134; refine (numDigits_walk u hu1 hu64 _ (htab.alloc _)).mono ?_; rintro e w' ⟨rfl, rfl⟩)
    go_at_call 135
    refine hfmt.mono ?_
    rintro e w' ⟨rfl, k, v', dk, rfl, hF⟩
    have hcv : (convert 31 9 (.slice (some ⟨w.heap.size, 0, none⟩) (Lib.nDigits u) 24)).run Tryd.prog ((putRow (fun (b : UInt8) => Value.int .u8 (b.toNat : Int)) (w.alloc (.cells Lib.zeros24 178)) w.heap.size 0 dk).drewN k) = .ok (.string ⟨(Lib.decDigits u).toArray⟩) ((putRow (fun (b : UInt8) => Value.int .u8 (b.toNat : Int)) (w.alloc (.cells Lib.zeros24 178)) w.heap.size 0 dk).drewN k) := by
      have h := run_convert_bytes_back (P := Tryd.prog) ((putRow (fun (b : UInt8) => Value.int .u8 (b.toNat : Int)) (w.alloc (.cells Lib.zeros24 178)) w.heap.size 0 dk).drewN k) 31 9 5 ⟨w.heap.size, 0, none⟩ 24 (Lib.decDigits u) Tryd.underlying31 Tryd.underlying5 Tryd.underlying9 (fun j hj => by
        rw [Lib.row_is_numeral hF j hj, Lib.add_plain, World.cell?_drewN]
        exact cell?_putRow (fun (b : UInt8) => Value.int .u8 (b.toNat : Int)) _ w.heap.size 0 _ dk HH0.out (by rw [hF.size, Array.size_replicate]) j (by rw [hF.size]; rw [Lib.decDigits_length] at hj; exact hj))
      rw [Lib.decDigits_length] at h
      exact h
    go_wp2
    go_ret
    obtain ⟨os, eo⟩ := putRow0 w (.cells Lib.zeros24 178) dk k
    exact ⟨rfl, k, os, eo⟩
set_option maxRecDepth 100000 in
theorem digits_walk (u : Nat) (hu : u ≤ 4294967295) (w : World) (htab : PowAt w) :
    Calls Tryd.prog 67 #[.int .u32 u] w fun e w' => e = .returned (.string ⟨(Lib.decDigits u).toArray⟩) ∧ ∃ k os, w' = grow (w.drewN k) os := by
  have hwr : IntKind.u64.wrap (u : Int) = u := by rw [IntKind.wrap_u64]; omega
  go_enter Tryd.func67, Tryd.ntmps67
  go_wp2_with (first
    | (go_at_call 115; refine (formatUint_walk u hu _ htab).mono ?_; rintro e w' ⟨rfl, k, os, rfl⟩)
    | go_in)
  go_ret
  exact ⟨rfl, k, os, rfl⟩
end Go.Proofs.YtolhahlnccekcaaDoor
namespace Go.Proofs.YtolhahlnccekcaaDoor.Abs
open Go.RowKit
set_option linter.unusedVariables false
theorem grow_grown (w : World) (k : Nat) (os : Array Obj) : w.grownBy (Go.Sort.grow (w.drewN k) os) none := by
  refine ⟨rfl, rfl, rfl, ?_, fun b hb _ => ?_⟩
  · show w.heap.size ≤ ((w.drewN k).heap ++ os).size
    rw [Array.size_append]
    exact Nat.le_add_right _ _
  · show ((w.drewN k).heap ++ os)[b]? = _
    rw [Array.getElem?_append_left (show b < (w.drewN k).heap.size from hb)]; rfl
section
variable {P : Program}
theorem Rep.below {c : Conc} {m : M} {w w' : World} (h : Rep c m w) (hg : w.grownBy w' none) (q : Pa) : Rep c m w' ∧ Ext q c m w c m w' :=
  ⟨h.grown hg, ⟨.refl c, hg.os, hg.tape, hg.output, hg.size, fun b hb _ _ => hg.block b hb (by simp), fun _ _ _ _ => rfl, fun _ _ x => x, fun _ _ x => x, fun _ _ x => x, fun _ _ x => x⟩⟩
theorem SC_calls {f : FuncId} {args : List V} {q : Pa} {m : M} {x : Value} (hen : ∀ (xs : Array Value) (w : World), (callFunc f xs).run P w = .ok (.enter f xs) w)
    (h : ∀ c xs w, Rep c m w → CR c args xs → Calls P f xs.toArray w fun e w' => e = .returned x ∧ w.grownBy w' none) : SC P f args q m (fun r m' => r = .lit x ∧ m' = m) := by
  intro c xs w hR hx hf
  refine .inl ⟨hen _ w, (h c xs w hR hx).mono fun e w' ⟨he, hg⟩ => ?_⟩
  obtain ⟨h1, h2⟩ := hR.below hg q
  exact ⟨_, _, _, m, he, ⟨rfl, rfl⟩, h1, h2, .lit .nil⟩
end
theorem CR.ints {c : Conc} {k : IntKind} : ∀ {l : List Int} {es : List Value}, CR c (cA (cI k) l) es → es = l.map (Value.int k) := by
  intro l
  induction l with
  | nil => intro es h; exact h.inv_nil
  | cons z l ih =>
    intro es h
    have h' : CR c ([V.lit (.int k z)] ++ cA (cI k) l) es := h
    obtain ⟨x, xs, rfl, h1, h2⟩ := h'.uncons
    rw [h1.inv_lit, ih h2]; rfl
theorem powAt {c : Conc} {m : M} {w : World} {l : List Int} (h : Rep c m w) (hg : m.gl 5 = .eptr [cA (cI .u64) l] 0 0) (hl : ∀ i : Nat, i < 20 → l[i]? = some ((10 ^ i : Nat) : Int)) : PowAt w := by
  have h1 := h.gl 5
  rw [hg] at h1
  obtain ⟨b, o, sz, es, h2, h3, h4, h5, h6⟩ := h1.inv_eptr
  simp only [Value.pointer.injEq, Option.some.injEq, Addr.mk.injEq, Nat.zero_mul, Nat.add_zero] at h2
  obtain ⟨rfl, rfl, _⟩ := h2
  rw [List.flatten_cons, List.flatten_nil, List.append_nil] at h3
  have h7 := h3.ints
  intro i hi
  have h8 := h5 i (.int .u64 ((10 ^ i : Nat) : Int)) (by rw [h7, List.getElem?_map, hl i hi]; rfl)
  rw [Nat.zero_add] at h8
  exact h.com _ _ _ h8
theorem digits_sc {q : Pa} {m : M} {u : Int} {l : List Int} (h0 : 0 ≤ u) (h1 : u ≤ 4294967295) (hg : m.gl 5 = .eptr [cA (cI .u64) l] 0 0) (hl : ∀ i : Nat, i < 20 → l[i]? = some ((10 ^ i : Nat) : Int)) :
    SC Tryd.prog 67 [.lit (.int .u32 u)] q m (fun r m' => r = .lit (.string (bs (Lib.decDigits u.toNat))) ∧ m' = m) := by
  refine SC_calls (fun xs w => Tryd.call67 xs w) fun c xs w hR hx => ?_
  obtain ⟨y, rfl, k⟩ := hx.inv_one
  obtain rfl := k.inv_lit
  have := digits_walk u.toNat (by omega) w (powAt hR hg hl)
  rw [Int.toNat_of_nonneg h0] at this
  exact this.mono fun e w' ⟨he, k, os, hw⟩ => ⟨he, by rw [hw]; exact grow_grown w k os⟩
theorem CR.strs {c : Conc} : ∀ {l : List Str} {es : List Value}, CR c (l.map cS).flatten es → es = l.map fun s => Value.string (bs s) := by
  intro l
  induction l with
  | nil => intro es h; exact h.inv_nil
  | cons z l ih =>
    intro es h
    have h' : CR c ([V.lit (.string (bs z))] ++ (l.map cS).flatten) es := h
    obtain ⟨x, xs, rfl, h1, h2⟩ := h'.uncons
    rw [h1.inv_lit, ih h2]; rfl
theorem join_sc {q : Pa} {m : M} {l : List Str} {s : Str} (hn : l.length ≤ 140737488355328) (hj : (Lib.join l s).length ≤ 140737488355328) :
    SC Tryd.prog 97 [.list .none (l.map cS), .lit (.string (bs s))] q m (fun r m' => r = .lit (.string (bs (Lib.join l s))) ∧ m' = m) := by
  refine SC_calls (fun xs w => Tryd.call97 xs w) fun c xs w hR hx => ?_
  obtain ⟨y, ys, rfl, k1, k2⟩ := hx.uncons
  obtain ⟨z, rfl, k3⟩ := k2.inv_one
  obtain rfl := k3.inv_lit
  obtain ⟨a, cap, es, sz, rfl, h1, h2, h3, h4, h5, h6, h7, h8⟩ := k1.inv_list
  rw [List.length_map] at h4 h6 ⊢
  have h9 := h1.strs
  cases l with
  | nil =>
    refine (Tryd.strings_Join_none a cap (bs s) w).mono fun e w' ⟨he, hw⟩ => ⟨?_, by rw [hw]; exact grefl w none⟩
    rw [he]; rfl
  | cons x l =>
    obtain ⟨b, o, rfl⟩ := h6 (by simp)
    have hlen : es.length = (x :: l).length := by rw [h9, List.length_map]
    obtain ⟨b', o', hab, hc⟩ := h7 (by rw [hlen]; simp)
    simp only [Option.some.injEq, Addr.mk.injEq, and_true] at hab
    obtain ⟨rfl, rfl⟩ := hab
    have hcell : ∀ (j : Nat) y, ((x :: l).map bs)[j]? = some y → w.cell? ⟨b, o + j, none⟩ = some (.string y) := by
      intro j y hy
      rw [List.getElem?_map] at hy
      refine hR.com _ _ _ (hc j _ ?_)
      rw [h9, List.getElem?_map]
      cases hq : (x :: l)[j]? with
      | none => rw [hq] at hy; cases hy
      | some t => rw [hq] at hy; cases hy; rfl
    have hbk : b < w.heap.size := by
      rcases Nat.lt_or_ge b w.heap.size with h' | h'
      · exact h'
      · have := hcell 0 (bs x) rfl
        simp [World.cell?, Array.getElem?_eq_none h'] at this
    have hmm : ((x :: l).map bs).map (·.data.toList) = x :: l := by
      rw [List.map_map]
      exact (List.map_congr_left fun y _ => rfl).trans (List.map_id _)
    have := Tryd.strings_Join b o cap ((x :: l).map bs) (bs s) w hcell hbk (by rw [List.length_map]; exact hn) (by rw [List.length_map]; exact h4) (by rw [hmm]; exact hj)
    rw [hmm, List.length_map] at this
    refine this.mono fun e w' ⟨he, hw⟩ => ⟨he, hw.os, hw.tape, hw.output, hw.size, fun k hk _ => hw.block k hk⟩
end Go.Proofs.YtolhahlnccekcaaDoor.Abs
namespace Go.Proofs.YtolhahlnccekcaaDoor.Abs
open Go.RowKit
set_option linter.unusedVariables false
abbrev byD (s : Str) : List Dat := s.map fun c => Dat.int .u8 c.toNat
/-- a builder that a call has made itself -/
structure BB (B b : Nat) (G : GG) (v : Value) (S : Str) (w : World) : Prop where
  le : B ≤ b
  cells : ∃ p, (p = .pointer none ∨ p = .pointer (some ⟨b, 0, none⟩)) ∧ w.heap[b]? = some (.cells #[p, v] 145 (0, 0))
  row : Row B G w 5 1 v (byD S)
  ne : v.ownBlock ≠ some b
  out : Out G b
/-- what a writer turns: its own block, its row -/
structure Fr (b : Nat) (r : Option Nat) (w w' : World) : Prop where
  os : w'.os = w.os
  tape : w'.tape = w.tape
  output : w'.output = w.output
  size : w.heap.size ≤ w'.heap.size
  block : ∀ k, k < w.heap.size → k ≠ b → r ≠ some k → w'.heap[k]? = w.heap[k]?
theorem BB.lt {B b : Nat} {G : GG} {v : Value} {S : Str} {w : World} (h : BB B b G v S w) : b < w.heap.size := by
  obtain ⟨p, _, hb⟩ := h.cells
  rcases Nat.lt_or_ge b w.heap.size with h' | h'
  · exact h'
  · simp [Array.getElem?_eq_none h'] at hb
theorem heap_set_other (w : World) (a : Addr) (u : Value) (k : Nat) (h : k ≠ a.block) : (w.setCell a u).heap[k]? = w.heap[k]? := Below.heap_setCell w a u k h
section
variable {P : Program}
open Go.Lib in
theorem wpList_append_str_row {ops : Array Oper} {rest : List Oper} {o : Oper} {a : Act} {Q : Exit → Act → World → Prop} {w : World} (hgd : o.guard = none) (sl x : Operand) (t u : TypeId)
    (ho : o.op = .call { callee := .builtin .append, args := #[sl, x], argTypes := #[t, u] })
    {B : Nat} {G : GG} {es : List Dat} (e : TypeId) (i : TypeInfo) (ht : P.underlying t = some (.slice e)) (hu : P.underlying u = some .string) (hi : P.info? e = some i) (hz : i.zero = some (.int .u8 0))
    (hsize : i.size = 1) (hby : i.bytes = 1) (hrow : Row B G w e 1 (a.eval sl) es) (hC : Com w G) (s : ByteArray) (hx : a.eval x = .string s) (h47 : es.length + s.size ≤ 70368744177664) (hB : B ≤ w.heap.size)
    (h : ∀ v' w', Row B G w' e 1 v' (es ++ (s.data.toList.map fun c => Dat.int .u8 c.toNat)) → w.grownBy w' (a.eval sl).ownBlock → (v'.ownBlock = (a.eval sl).ownBlock ∨ v'.ownBlock = some w.heap.size) → wpList P ops Q rest (a.put o.dst v') w') : wpList P ops Q (o :: rest) a w := by
  refine wpList_plain hgd fun K hK => ?_
  obtain ⟨v', w', hrun, h2, h3, h4⟩ := run_append_str_row (P := P) w t u o.type e i ht hu hi hz hsize hby hrow hC s h47 hB
  unfold Oper.wp execOp
  simp only [ho, resolve, invoke, builtin, Sem.run_bind, Sem.run_pure, Result.andThen_ok, List.map_toArray, List.map_cons, List.map_nil, hx, hrun]
  exact hK _ _ (h v' w' h2 h3 h4)
end
/-- behind the copy check -/
theorem copyCheck_bb {B b : Nat} {G : GG} {v : Value} {S : Str} {w : World} (h : BB B b G v S w) (hC : Com w G) :
    Calls Tryd.prog 114 #[.pointer (some ⟨b, 0, none⟩)] w fun e w' => e = .returned (.tuple #[]) ∧ BB B b G v S w' ∧ w'.heap[b]? = some (.cells #[.pointer (some ⟨b, 0, none⟩), v] 145 (0, 0)) ∧ Com w' G ∧ w'.heap.size = w.heap.size ∧ Fr b none w w' := by
  have hlt := h.lt
  obtain ⟨hle, ⟨p, hp, hb⟩, hrow, hne, hout⟩ := h
  rcases hp with rfl | rfl
  · have h0 : w.cell? ⟨b, 0, none⟩ = some (.pointer none) := by simp [World.cell?, hb]
    have hsh : w.shape? b = some (145, 2) := by simp [World.shape?, hb]
    have hfz : w.frozen? ⟨b, 0, none⟩ = false := Lib.frozen_of_heap hb 0
    have hset : (w.setCell ⟨b, 0, none⟩ (.pointer (some ⟨b, 0, none⟩))).heap[b]? = some (.cells #[.pointer (some ⟨b, 0, none⟩), v] 145 (0, 0)) := by
      simp [World.setCell, Array.getElem?_modify, hb]
    refine (Any.Builder_copyCheck_fresh (P := Tryd.prog) (ρ := Tryd.lays156_ren) { Tryd.lays156 with } Tryd.Builder_Extra_156.toX72 b w h0 hsh hfz).mono fun e w' ⟨he, hw⟩ => ?_
    subst hw
    refine ⟨he, ⟨hle, ⟨_, .inr rfl, hset⟩, hrow.set_ (fun e => hne e) 0 _, hne, hout⟩, hset, hC.set_ hout 0 _, ?_, rfl, rfl, rfl, ?_, fun k hk hkb _ => heap_set_other w _ _ k hkb⟩
    · simp [World.setCell]
    · simp [World.setCell]
  · have h0 : w.cell? ⟨b, 0, none⟩ = some (.pointer (some ⟨b, 0, none⟩)) := by simp [World.cell?, hb]
    refine (Any.Builder_copyCheck_used (P := Tryd.prog) (ρ := Tryd.lays156_ren) { Tryd.lays156 with } Tryd.Builder_Extra_156.toX72 b w h0).mono fun e w' ⟨he, hw⟩ => ?_
    subst hw
    exact ⟨he, ⟨hle, ⟨_, .inr rfl, hb⟩, hrow, hne, hout⟩, hb, hC, rfl, rfl, rfl, rfl, Nat.le_refl _, fun _ _ _ _ => rfl⟩
set_option maxRecDepth 100000 in
set_option maxHeartbeats 2000000 in
theorem writeString_walk {B b : Nat} {G : GG} {v : Value} {S : Str} {w : World} (h : BB B b G v S w) (hC : Com w G) (s : Str) (hlen : S.length + s.length ≤ 70368744177664) (hB : B ≤ w.heap.size) :
    Calls Tryd.prog 94 #[.pointer (some ⟨b, 0, none⟩), .string (bs s)] w fun e w' => e = .returned (.tuple #[.int .i64 s.length, .nilIface]) ∧ ∃ v', BB B b G v' (S ++ s) w' ∧ (v'.ownBlock = v.ownBlock ∨ ∃ g, v'.ownBlock = some g ∧ w.heap.size ≤ g) ∧ Com w' G ∧ Fr b v.ownBlock w w' := by
  obtain ⟨i0, hi, hz0, hz1, hz2⟩ := info_parts Tryd.Builder_Extra_156.infoByte
  have hsz : (bs s).size = s.length := by simp [bs, ByteArray.size]
  have HB := hid h
  have HC := hid hC
  clear h hC
  go_enter Tryd.func94, Tryd.ntmps94
  go_wp2_with (go_at_call 114; refine (copyCheck_bb HB.out HC.out).mono ?_)
  rintro e w1 ⟨rfl, h1, hb1, hC1, hs1, hf1⟩
  have HB1 := hid h1
  have HC1 := hid hC1
  have HF1 := hid hf1
  have HS1 := hid hs1
  have HBB := hid hb1
  have c1 : w1.cell? ⟨b, 1, none⟩ = some v := by rw [Lib.cell_of_heap hb1]; rfl
  clear h1 hC1 hf1 hb1 hs1
  go_wp2_with (at_builtin; refine wpList_append_str_row rfl _ _ 31 9 rfl 5 i0 Tryd.underlying31 Tryd.underlying9 hi hz0 hz1 hz2 HB1.out.row HC1.out (bs s) rfl ?c3 ?c4 ?_)
  case c3 => rw [hsz]; simpa using hlen
  case c4 => have := HS1.out; omega
  intro v' w2 hrow' hgrow hob
  have hlt : b < w1.heap.size := HB1.out.lt
  have hb2 : w2.heap[b]? = some (.cells #[.pointer (some ⟨b, 0, none⟩), v] 145 (0, 0)) := by
    rw [hgrow.block b hlt (fun e => HB1.out.ne e.symm)]
    exact HBB.out
  have d1 : w2.cell? ⟨b, 1, none⟩ = some v := by rw [Lib.cell_of_heap hb2]; rfl
  have f1 : w2.frozen? ⟨b, 1, none⟩ = false := Lib.frozen_of_heap hb2 1
  have d0 : w2.cell? ⟨b, 0, none⟩ = some (.pointer (some ⟨b, 0, none⟩)) := by rw [Lib.cell_of_heap hb2]; rfl
  have HR := hid hrow'
  have HG := hid hgrow
  have HO := hid hob
  have HB2 := hid hb2
  obtain ⟨ao, cap, rfl⟩ := hrow'.form
  clear hrow' hgrow hob hb2
  go_wp2
  go_ret2
  have hl : S.length + s.length = (byD S ++ ((bs s).data.toList.map fun c => Dat.int .u8 c.toNat)).length := by
    rw [List.length_append, List.length_map, List.length_map]; rfl
  rw [hl]
  have hne : (Value.slice ao (byD S ++ ((bs s).data.toList.map fun c => Dat.int .u8 c.toNat)).length cap).ownBlock ≠ some b := by
    rcases HO.out with e | e
    · rw [e]; exact HB1.out.ne
    · rw [e]; intro e2; cases e2; exact absurd hlt (Nat.lt_irrefl _)
  have hC2 : Com w2 G := HC1.out.grown HG.out fun g hg => HB1.out.row.out g hg
  have hlt2 : b < w2.heap.size := Nat.lt_of_lt_of_le hlt HG.out.size
  refine ⟨by rw [← hsz]; rfl, _, ⟨HB1.out.le, ⟨_, .inr rfl, ?_⟩, ?_, hne, HB1.out.out⟩, ?_, hC2.set_ HB1.out.out 1 _, ?_⟩
  · simp [World.setCell, Array.getElem?_modify, HB2.out]
  · have := HR.out.set_ (b := b) hne 1 (Value.slice ao (byD S ++ ((bs s).data.toList.map fun c => Dat.int .u8 c.toNat)).length cap)
    rw [show byD (S ++ s) = byD S ++ ((bs s).data.toList.map fun c => Dat.int .u8 c.toNat) by rw [byD, List.map_append]; rfl]
    exact this
  · rcases HO.out with e | e
    · exact .inl e
    · exact .inr ⟨_, e, by have := HS1.out; omega⟩
  · have hf := HF1.out
    refine ⟨HG.out.os.trans hf.os, HG.out.tape.trans hf.tape, HG.out.output.trans hf.output, ?_, fun k hk hkb hkr => ?_⟩
    · have := HG.out.size
      have := HS1.out
      simp only [World.setCell, Array.size_modify]; omega
    · rw [heap_set_other w2 _ _ k hkb, HG.out.block k (by have := HS1.out; omega) (fun e => hkr e.symm), hf.block k hk hkb (by simp)]
end Go.Proofs.YtolhahlnccekcaaDoor.Abs
namespace Go.Proofs.YtolhahlnccekcaaDoor.Abs
open Go.RowKit
set_option linter.unusedVariables false
theorem reps_by {G : GG} : ∀ {S : Str} {xs : List Value}, Reps G (byD S) xs → xs = Lib.byteCells S := by
  intro S
  induction S with
  | nil => intro xs h; cases h; rfl
  | cons c S ih =>
    intro xs h
    have h' : Reps G (Dat.int .u8 c.toNat :: byD S) xs := h
    cases h' with
    | int _ h2 => rw [ih h2]; rfl
theorem Fr.drew {b : Nat} {r : Option Nat} (w : World) : Fr b r w w.drew := ⟨rfl, rfl, rfl, Nat.le_refl _, fun _ _ _ _ => rfl⟩
theorem Fr.freeze {b g : Nat} {w w' : World} (h : Fr b (some g) w w') (n : Nat) : Fr b (some g) w (w'.freeze ⟨g, 0, none⟩ n) := by
  unfold World.freeze
  split
  · exact h
  · exact ⟨h.os, h.tape, h.output, by have := h.size; simpa using this, fun k hk hkb hkr => by
      simp only [Array.getElem?_modify]
      rw [if_neg (fun e => hkr (by rw [← e]))]
      exact h.block k hk hkb hkr⟩
theorem Fr.alloc {b : Nat} {r : Option Nat} {w w' : World} (h : Fr b r w w') (o : Obj) : Fr b r w (w'.alloc o) :=
  ⟨h.os, h.tape, h.output, by have := h.size; show _ ≤ (w'.heap.push o).size; rw [Array.size_push]; omega, fun k hk hkb hkr => by
    rw [Below.heap_alloc w' o k (by have := h.size; omega)]; exact h.block k hk hkb hkr⟩
set_option maxRecDepth 100000 in
set_option maxHeartbeats 2000000 in
theorem string_walk {B b : Nat} {G : GG} {v : Value} {S : Str} {w : World} (h : BB B b G v S w) :
    Calls Tryd.prog 95 #[.pointer (some ⟨b, 0, none⟩)] w fun e w' => e = .returned (.string (bs S)) ∧ Fr b v.ownBlock w w' := by
  have mixed : Tryd.prog.follows .mixedOrders = true := by kernel_rfl
  have hlt := h.lt
  obtain ⟨p, hp, hb⟩ := h.cells
  obtain ⟨⟨xs, hown, hreps⟩, hout⟩ := h.row
  obtain rfl := reps_by hreps
  have hUS0 : ∀ W q, (Builtin.unsafeString_ #[165, 3] 9 #[.pointer q, .int .i64 0]).run Tryd.prog W = .ok (.string .empty) W := fun W q => Lib.run_unsafeString_none W _ _ _ q
  have hl0 : (byD S).length = S.length := List.length_map _
  rw [hl0] at hown
  clear h hreps hout
  rcases hown.2 with ⟨rfl, hz⟩ | ⟨g, cap, cur, rfl, hbg, hg, hnc, hcm, hcs, htake⟩
  · obtain rfl : S = [] := List.eq_nil_of_length_eq_zero hz
    have c1 : w.drew.cell? ⟨b, 1, none⟩ = some (.slice none 0 0) := by
      have : w.drew.heap[b]? = some (.cells #[p, .slice none 0 0] 145 (0, 0)) := hb
      rw [Lib.cell_of_heap this]; rfl
    have hSD : (Builtin.unsafeSliceData_ #[31] 165 #[.slice none 0 0]).run Tryd.prog w.drew = .ok (.pointer none) w.drew := rfl
    clear hown hp hb hl0
    go_enter Tryd.func95, Tryd.ntmps95
    go_wp2
    go_region_o
    all_goals (go_wp2; go_ret; exact ⟨rfl, Fr.drew w⟩)
  · by_cases hS : S = []
    · subst hS
      by_cases hc0 : cap = 0
      · subst hc0
        have c1 : w.drew.cell? ⟨b, 1, none⟩ = some (.slice (some ⟨g, 0, none⟩) 0 0) := by
          have : w.drew.heap[b]? = some (.cells #[p, .slice (some ⟨g, 0, none⟩) 0 0] 145 (0, 0)) := hb
          rw [Lib.cell_of_heap this]; rfl
        have hSD : (Builtin.unsafeSliceData_ #[31] 165 #[.slice (some ⟨g, 0, none⟩) 0 0]).run Tryd.prog w.drew = .ok (.pointer (some ⟨w.drew.heap.size, 0, none⟩)) (w.drew.alloc (.view ⟨g, 0, none⟩ 5)) :=
          Lib.run_unsafeSliceData_zero w.drew _ _ 5 Tryd.underlying165 ⟨g, 0, none⟩ 0 (5, cur.size) (by have hg' : w.drew.heap[g]? = some (.cells cur 5 (0, 0)) := hg; simp [World.shape?, hg'])
        have c2 : (w.drew.alloc (.view ⟨g, 0, none⟩ 5)).cell? ⟨b, 1, none⟩ = some (.slice (some ⟨g, 0, none⟩) 0 0) := by
          have : (w.drew.alloc (.view ⟨g, 0, none⟩ 5)).heap[b]? = _ := (Lib.alloc_old w.drew _ b hlt).trans hb
          rw [Lib.cell_of_heap this]; rfl
        have c3 : (w.alloc (.view ⟨g, 0, none⟩ 5)).drew.cell? ⟨b, 1, none⟩ = some (.slice (some ⟨g, 0, none⟩) 0 0) := c2
        have c0 : w.cell? ⟨b, 1, none⟩ = some (.slice (some ⟨g, 0, none⟩) 0 0) := c1
        clear hown hp hb hl0 htake hcs
        go_enter Tryd.func95, Tryd.ntmps95
        go_wp2
        go_region_o
        all_goals (go_wp2; go_ret; exact ⟨rfl, (Fr.drew w).alloc _⟩)
      · have c1 : w.drew.cell? ⟨b, 1, none⟩ = some (.slice (some ⟨g, 0, none⟩) 0 cap) := by
          have : w.drew.heap[b]? = some (.cells #[p, .slice (some ⟨g, 0, none⟩) 0 cap] 145 (0, 0)) := hb
          rw [Lib.cell_of_heap this]; rfl
        have hSD : (Builtin.unsafeSliceData_ #[31] 165 #[.slice (some ⟨g, 0, none⟩) 0 cap]).run Tryd.prog w.drew = .ok (.pointer (some ⟨g, 0, none⟩)) w.drew :=
          Lib.run_unsafeSliceData_row _ _ _ _ _ _ hc0
        clear hown hp hb hl0 htake hcs hc0
        go_enter Tryd.func95, Tryd.ntmps95
        go_wp2
        go_region_o
        all_goals (go_wp2; go_ret; exact ⟨rfl, Fr.drew w⟩)
    · have hS0 : S.length ≠ 0 := by simpa using hS
      have c1 : w.drew.cell? ⟨b, 1, none⟩ = some (.slice (some ⟨g, 0, none⟩) S.length cap) := by
        have : w.drew.heap[b]? = some (.cells #[p, .slice (some ⟨g, 0, none⟩) S.length cap] 145 (0, 0)) := hb
        rw [Lib.cell_of_heap this]; rfl
      have hSD : (Builtin.unsafeSliceData_ #[31] 165 #[.slice (some ⟨g, 0, none⟩) S.length cap]).run Tryd.prog w.drew = .ok (.pointer (some ⟨g, 0, none⟩)) w.drew :=
        Lib.run_unsafeSliceData_row _ _ _ _ _ _ (by omega)
      have hUS : (Builtin.unsafeString_ #[165, 3] 9 #[.pointer (some ⟨g, 0, none⟩), .int .i64 S.length]).run Tryd.prog w.drew = .ok (.string ⟨S.toArray⟩) (w.drew.freeze ⟨g, 0, none⟩ S.length) := by
        refine Lib.run_unsafeString_row w.drew 165 3 9 5 Tryd.underlying165 (by kernel_rfl) g cur.size (by have hg' : w.drew.heap[g]? = some (.cells cur 5 (0, 0)) := hg; simp [World.shape?, hg']) S hS (by omega) (by unfold maxLen at hcm; omega) ?_
        intro j x hx
        exact hown.cells (g := g) rfl j (.int .u8 x.toNat) (by simp [Lib.byteCells, hx])
      clear hown hp hb hl0 htake hcs
      go_enter Tryd.func95, Tryd.ntmps95
      go_wp2
      go_region_o
      all_goals (go_wp2; go_ret; exact ⟨rfl, (Fr.drew w).freeze _⟩)
end Go.Proofs.YtolhahlnccekcaaDoor.Abs
