/-
  How long a shown text is.
-/
import Derived.Test.YtolhahlnccekcaaDoorPwSh5
namespace Go.Proofs.YtolhahlnccekcaaDoor.Abs
open Go.RowKit
set_option linter.unusedVariables false
set_option linter.unusedSimpArgs false
/-- a node whose texts are short -/
inductive OKN : Nd → Prop
  | mk {k a : Int} {t : Str} {n : Int} {l : List Nd} : t.length ≤ 32 → 0 ≤ n → n ≤ 4294967295 → (∀ x ∈ l, OKN x) → OKN ⟨k, a, t, n, l⟩
theorem all0 {p : Nd → Prop} : ∀ x ∈ ([] : List Nd), p x := fun _ h => by cases h
theorem all1 {p : Nd → Prop} {x : Nd} (h : p x) : ∀ y ∈ [x], p y := fun y hy => by rw [List.mem_singleton.1 hy]; exact h
theorem all2 {p : Nd → Prop} {x : Nd} {l : List Nd} (h : p x) (k : ∀ y ∈ l, p y) : ∀ y ∈ x :: l, p y := List.forall_mem_cons.2 ⟨h, k⟩
theorem levP_len : ∀ l : Nat, l < 7 → ∀ s ∈ levP l, s.length ≤ 32 := by decide
theorem GE.ok {x : Nd} (h : GE x) : OKN x := by
  induction h with
  | num hu => exact .mk (by simp) (by omega) (by omega) all0
  | ref h _ => exact .mk h.2.2 (by omega) (by omega) all0
  | idx h _ _ ih => exact .mk h.2.2 (by omega) (by omega) (all1 ih)
  | call h _ _ ih => exact .mk h.2.2 (by omega) (by omega) ih
  | un h _ ih => exact .mk (by rcases h with rfl | rfl <;> simp) (by omega) (by omega) (all1 ih)
  | bin hl hs _ _ _ ih1 ih2 => exact .mk (levP_len _ hl _ hs) (by omega) (by omega) (all2 ih1 (all1 ih2))
theorem GS.ok {b : Bool} {x : Nd} (h : GS b x) : OKN x := by
  induction h with
  | block _ ih => exact .mk (by simp) (by omega) (by omega) ih
  | bind _ h _ he => exact .mk h.2.2 (by omega) (by omega) (all1 he.ok)
  | arr h _ hu => exact .mk h.2.2 (by omega) (by omega) all0
  | ret he => exact .mk (by simp) (by omega) (by omega) (all1 he.ok)
  | choice he _ ih => exact .mk (by simp) (by omega) (by omega) (all2 he.ok (all1 ih))
  | choice2 he _ _ ih1 ih2 => exact .mk (by simp) (by omega) (by omega) (all2 he.ok (all2 ih1 (all1 ih2)))
  | loop h _ he he2 _ ih => exact .mk h.2.2 (by omega) (by omega) (all2 he.ok (all2 he2.ok (all1 ih)))
  | call h _ he => exact .mk h.2.2 (by omega) (by omega) fun x hx => (he x hx).ok
  | put h _ he he2 => exact .mk h.2.2 (by omega) (by omega) (all2 he.ok (all1 he2.ok))
  | set h _ he => exact .mk h.2.2 (by omega) (by omega) (all1 he.ok)
theorem GP.ok {x : Nd} (h : GP x) : OKN x := by
  cases h with
  | word h _ hk => exact .mk h.2.2 (by omega) (by omega) all0
  | arr h _ hu => exact .mk h.2.2 (by omega) (by omega) (all1 (.mk (by simp) (by omega) (by omega) all0))
theorem GF.ok {x : Nd} (h : GF x) : OKN x := by
  cases h with
  | mk h _ hr he hp hb => exact .mk h.2.2 (by omega) (by omega) fun x hx => (List.mem_append.1 hx).elim (fun h => (hp x h).ok) fun h => by rw [List.mem_singleton.1 h]; exact hb.ok
theorem parse_okn {n : Nat} {s : Str} {r : T_parse_Node × Int × Int} (hn : 16 * s.length + 200 < n) (h : parse_Parse n s = some r) (he : r.2.1 = 0) : OKN r.1 := by
  obtain ⟨l, w, fs, z, t, us, h1, h2, h3, h4, h5, h6⟩ := parse_der hn h he
  obtain ⟨hs, k, l', e1, e2, e3⟩ := Tokens_tk (by omega) (by omega) h1
  have hk : kts l := by
    rw [e1]
    intro t ht
    rcases List.mem_append.1 ht with ht | ht
    · exact e3.kts (by omega) (by omega) (by omega) t ht
    · rw [List.mem_singleton.1 ht]
      exact ⟨(fun h => by cases h), fun h => by cases h⟩
  have hg := h2.good hk
  rw [h5]
  exact .mk (by simp) (by omega) (by omega) fun x hx => (hg x hx).ok
def tot (ls : List Str) : Nat := (ls.map List.length).sum
theorem tot_nil : tot [] = 0 := rfl
theorem tot_cons (x : Str) (l : List Str) : tot (x :: l) = x.length + tot l := by simp [tot]
theorem tot_app (l m : List Str) : tot (l ++ m) = tot l + tot m := by simp [tot]
theorem at0_three (ls : List Str) : (at0 ls 0).length + (at0 ls 1).length + (at0 ls 2).length ≤ tot ls := by
  match ls with
  | [] => simp [at0, tot]
  | [x] => simp [at0, tot]
  | [x, y] => simp [at0, tot]
  | x :: y :: z :: l => simp [at0, tot]; omega
theorem comma_len : ∀ ls : List Str, (comma ls).length ≤ tot ls + 2 * ls.length
  | [] => by simp [comma]
  | [x] => by simp [comma, tot]
  | x :: y :: l => by
    have := comma_len (y :: l)
    rw [comma, tot_cons]
    simp only [List.length_append, List.length_cons, List.length_nil] at this ⊢
    omega
theorem sev_len : ∀ ls : List Str, (sev ls).length = tot ls + ls.length
  | [] => rfl
  | x :: l => by
    have := sev_len l
    rw [sev, tot_cons]
    simp only [List.length_append, List.length_cons] at this ⊢
    omega
theorem last_len (ls : List Str) : (comma (ls.take (ls.length - 1))).length + (at0 ls (ls.length - 1)).length ≤ tot ls + 2 * ls.length := by
  rcases List.eq_nil_or_concat ls with rfl | ⟨l, x, rfl⟩
  · simp [at0, comma]
  · have := comma_len l
    rw [List.concat_eq_append, show (l ++ [x]).length - 1 = l.length by simp, List.take_left, tot_app, tot_cons, tot_nil]
    simp [at0]
    omega
theorem dec_len : ∀ (k u : Nat), u < 10 ^ (k + 1) → (Lib.decDigits u).length ≤ k + 1
  | 0, u, h => by rw [Lib.decDigits_one (by omega)]; simp
  | k + 1, u, h => by
    rw [Lib.decDigits]
    split
    · simp
    · have := dec_len k (u / 10) (by rw [Nat.pow_succ] at h; omega)
      rw [List.length_append, List.length_singleton]
      omega
theorem kindS_len (n : Int) : (kindS n).length ≤ 3 := by
  unfold kindS
  split
  · decide
  · split <;> decide
theorem txK_len {k n : Int} {t : Str} {ls : List Str} (h0 : 0 ≤ n) (h1 : n ≤ 4294967295) : (txK k t n ls).length ≤ t.length + tot ls + 2 * ls.length + 50 := by
  have a1 := at0_three ls
  have a2 := comma_len ls
  have a3 := sev_len ls
  have a4 := last_len ls
  have a5 : (Lib.decDigits n.toNat).length ≤ 10 := dec_len 9 _ (by omega)
  have a6 : (kindS n).length ≤ 3 := kindS_len n
  have bF : (txF t n ls).length ≤ t.length + tot ls + 2 * ls.length + 50 := by
    unfold txF
    repeat' split
    all_goals (simp only [List.length_append, List.length_cons, List.length_nil]; omega)
  have bS : (txS k t n ls).length ≤ t.length + tot ls + 2 * ls.length + 50 := by
    unfold txS
    repeat' split
    all_goals (try simp only [List.length_append, List.length_cons, List.length_nil]); omega
  unfold txK
  repeat' split
  all_goals first | exact bF | exact bS | omega | (simp only [List.length_append, List.length_cons, List.length_nil]; omega)
theorem tx_len (x : Nd) (h : OKN x) : (tx x).length + 2 ≤ 100 * sz x := by
  induction x using Nd_ind with
  | h k a t n l ih =>
    cases h with
    | mk h1 h2 h3 h4 =>
      rw [tx_mk, sz_mk]
      have := txK_len (k := k) (t := t) (ls := l.map tx) h2 h3
      have key : tot (l.map tx) + 2 * l.length ≤ 100 * szL l := by
        clear this h1 h2 h3
        induction l with
        | nil => simp [tot, szL_nil]
        | cons x l ih2 =>
          have k1 := ih x List.mem_cons_self (h4 x List.mem_cons_self)
          have k2 := ih2 (fun y hy => ih y (List.mem_cons_of_mem _ hy)) fun y hy => h4 y (List.mem_cons_of_mem _ hy)
          rw [List.map_cons, tot_cons, szL_cons, List.length_cons]
          omega
      rw [List.length_map] at this
      omega
end Go.Proofs.YtolhahlnccekcaaDoor.Abs
namespace Go.Proofs.YtolhahlnccekcaaDoor.Abs
open Go.RowKit
set_option linter.unusedVariables false
set_option linter.unusedSimpArgs false
theorem and_pow (u i : Nat) : u &&& 2 ^ i = if u.testBit i then 2 ^ i else 0 := by
  apply Nat.eq_of_testBit_eq
  intro j
  rw [Nat.testBit_and, Nat.testBit_two_pow]
  by_cases h : i = j
  · subst h
    cases hb : u.testBit i <;> simp
  · split <;> simp [Nat.testBit_two_pow, h]
theorem and_bit {n : Int} (h0 : 0 ≤ n) (h1 : n ≤ 4294967295) (i : Nat) (hi : i < 3) {b : Int} (hb : b = ((2 ^ i : Nat) : Int)) : (andK .u32 n b != 0) = decide (n / b % 2 = 1) := by
  obtain ⟨u, rfl⟩ : ∃ u : Nat, n = u := ⟨n.toNat, by omega⟩
  have hu : u < 4294967296 := by omega
  have e1 : andK .u32 (u : Int) b = ((u &&& 2 ^ i : Nat) : Int) := by
    have k1 : (BitVec.ofInt 32 (u : Int)).toNat = u := by rw [BitVec.toNat_ofInt]; omega
    have k2 : (BitVec.ofInt 32 b).toNat = 2 ^ i := by
      rw [hb]
      rcases i with _ | _ | _ | i
      · rfl
      · rfl
      · rfl
      · omega
    have k3 : u &&& 2 ^ i ≤ u := Nat.and_le_left
    unfold andK
    show IntKind.u32.wrap ((BitVec.ofInt 32 (u : Int) &&& BitVec.ofInt 32 b).toNat : Int) = _
    rw [BitVec.toNat_and, k1, k2, IntKind.wrap_u32]
    omega
  have e2 : ((u : Int) / b % 2 = 1) ↔ (u / 2 ^ i % 2 = 1) := by
    rw [hb]
    rcases i with _ | _ | _ | i
    · simp only [Nat.pow_zero]; omega
    · simp only [Nat.zero_add, Nat.pow_one]; omega
    · simp only [Nat.zero_add, Nat.reduceAdd, Nat.reducePow]; omega
    · omega
  rw [e1, and_pow, Nat.testBit_eq_decide_div_mod_eq]
  by_cases h : u / 2 ^ i % 2 = 1
  · rw [decide_eq_true (e2.2 h), decide_eq_true h, if_pos rfl]
    have : 0 < 2 ^ i := Nat.pow_pos (by decide)
    simp only [bne_iff_ne, ne_eq]; omega
  · rw [decide_eq_false (fun x => h (e2.1 x)), decide_eq_false h]
    simp
theorem join_comma : ∀ l : List Str, Lib.join l [44, 32] = comma l
  | [] => by simp [Lib.join, comma]
  | [x] => by simp [Lib.join, comma]
  | x :: y :: l => by
    have := join_comma (y :: l)
    unfold Lib.join at this ⊢
    rw [comma, ← this, List.intercalate_cons_cons]
    simp
/-- what a shown text's pieces may be as long as -/
def Sml (l : List Nd) : Prop := tot (l.map tx) + 2 * l.length ≤ 3000000
section
variable {rec : Nd → Option Str}
theorem all_l1_eq {l : List Nd} (hr : ∀ x ∈ l, rec x = some (tx x)) (hl : l.length ≤ 3000000) : ∀ (c v : Nat), l.length < v + c → v ≤ l.length → parse_all_l1 rec l c ((l.take v).map tx) (v : Int) = some (l.map tx) := by
  intro c
  induction c with
  | zero => intro v h1 h2; omega
  | succ c ih =>
    intro v h1 h2
    rw [parse_all_l1]
    by_cases hv : v < l.length
    · obtain ⟨x, hx⟩ : ∃ x, l[v]? = some x := ⟨l[v], List.getElem?_eq_getElem hv⟩
      rw [if_pos (by simpa using hv), idxL_nat, hx, Option.bind_some, hr x (List.mem_of_getElem? hx), Option.bind_some, need_of (by simp; omega)]
      have h3 := ih (v + 1) (by omega) (by omega)
      rw [show IntKind.i64.wrap ((v : Int) + 1) = ((v + 1 : Nat) : Int) by rw [IntKind.wrap_i64]; omega]
      rw [← h3, List.take_add_one, hx]
      simp
    · obtain rfl : v = l.length := by omega
      rw [if_neg (by simp), List.take_length]
theorem all_eq {n : Nat} {l : List Nd} (hr : ∀ x ∈ l, rec x = some (tx x)) (hl : Sml l) (hn : l.length < n) : parse_all_b rec n l = some (comma (l.map tx)) := by
  unfold Sml at hl
  have h1 := all_l1_eq hr (by omega) n 0 (by omega) (by omega)
  have h2 := comma_len (l.map tx)
  rw [List.length_map] at h2
  unfold parse_all_b
  rw [show ((l.take 0).map tx) = [] from rfl] at h1
  rw [show (0 : Int) = ((0 : Nat) : Int) from rfl, h1, Option.bind_some]
  unfold strings_Join
  rw [join_comma, need_of ⟨by rw [List.length_map]; omega, by omega⟩]
  rfl
theorem at_eq {n : Nat} {x : Nd} (hr : ∀ y ∈ x.List_, rec y = some (tx y)) (i : Nat) : parse_at_b rec n x (i : Int) = some (at0 (x.List_.map tx) i) := by
  unfold parse_at_b at0
  by_cases hi : i < x.List_.length
  · obtain ⟨y, hy⟩ : ∃ y, x.List_[i]? = some y := ⟨x.List_[i], List.getElem?_eq_getElem hi⟩
    rw [if_neg (by simpa using hi), idxL_nat, hy, Option.bind_some, hr y (List.mem_of_getElem? hy), Option.bind_some, List.getElem?_map, hy]
    rfl
  · rw [if_pos (by simpa using hi), List.getElem?_map, List.getElem?_eq_none (by omega)]
    rfl
theorem sev_eq : ∀ {l : List Nd} {s : Str}, (∀ x ∈ l, rec x = some (tx x)) → s.length + tot (l.map tx) + l.length ≤ 3000000 → severalL rec l s = some (s ++ sev (l.map tx))
  | [], s, _, _ => by rw [severalL, List.map_nil, sev, List.append_nil]
  | x :: l, s, hr, hl => by
    rw [List.map_cons, tot_cons, List.length_cons] at hl
    rw [severalL, hr x List.mem_cons_self, Option.bind_some, need_of ⟨by omega, by omega⟩, sev_eq (fun y hy => hr y (List.mem_cons_of_mem _ hy)) (by rw [List.length_append, List.length_append, List.length_singleton]; omega), List.map_cons, sev]
    simp
theorem at0_le (ls : List Str) (i : Nat) : (at0 ls i).length ≤ tot ls := by
  unfold at0
  cases h : ls[i]? with
  | none => simp
  | some x =>
    have : x ∈ ls := List.mem_of_getElem? h
    clear h
    induction ls with
    | nil => cases this
    | cons y l ih =>
      rw [tot_cons]
      rcases List.mem_cons.1 this with rfl | h
      · simp
      · have := ih h; omega
end
end Go.Proofs.YtolhahlnccekcaaDoor.Abs
namespace Go.Proofs.YtolhahlnccekcaaDoor.Abs
open Go.RowKit
set_option linter.unusedVariables false
set_option linter.unusedSimpArgs false
section
variable {recT : Nd → Option Str} {recAt : Nd → Int → Option Str} {recAll : List Nd → Option Str}
theorem kinds_eq {n : Int} (h1 : 1 ≤ n) (h2 : n < 4) : idxL g_parse_kinds n = some (kindS n) := by
  have : n = 1 ∨ n = 2 ∨ n = 3 := by omega
  rcases this with rfl | rfl | rfl <;> rfl
theorem par_eq {n : Nat} {k a : Int} {t : Str} {u : Int} {l : List Nd} (hat : ∀ i : Nat, recAt ⟨k, a, t, u, l⟩ (i : Int) = some (at0 (l.map tx) i)) (ht : t.length ≤ 32) (h0 : 0 ≤ u) (h1 : u ≤ 4294967295) (hl : Sml l) :
    parse_param_b recAt n ⟨k, a, t, u, l⟩ = some (if 1 ≤ u ∧ u < 4 then t ++ ([58, 32] ++ kindS u) else t ++ ([58, 32, 91] ++ (at0 (l.map tx) 0 ++ [93]))) := by
  have b1 := at0_le (l.map tx) 0
  have b2 := kindS_len u
  unfold Sml at hl
  have hw : IntKind.i64.wrap u = u := by rw [IntKind.wrap_i64]; omega
  unfold parse_param_b
  simp only
  rw [hw]
  by_cases h2 : 1 ≤ u
  · rw [if_pos (by simpa using h2), Option.bind_some]
    by_cases h3 : u < 4
    · rw [if_pos (by simpa using h3), if_pos ⟨h2, h3⟩, need_of (by simp; omega), kinds_eq h2 h3, Option.bind_some, need_of (by simp; omega), List.append_assoc]
    · have h4 := hat 0
      rw [show ((0 : Nat) : Int) = 0 from rfl] at h4
      rw [if_neg (by simpa using h3), if_neg (fun h => h3 h.2), h4, Option.bind_some, need_of (by simp; omega), need_of (by simp; omega), need_of (by simp; omega)]
      simp
  · have h4 := hat 0
    rw [show ((0 : Nat) : Int) = 0 from rfl] at h4
    rw [if_neg (by simpa using h2), Option.bind_some, if_neg (by decide), if_neg (fun h => h2 h.1), h4, Option.bind_some, need_of (by simp; omega), need_of (by simp; omega), need_of (by simp; omega)]
    simp
theorem fun_eq {n : Nat} {k a : Int} {t : Str} {u : Int} {l : List Nd} (hat : ∀ i : Nat, recAt ⟨k, a, t, u, l⟩ (i : Int) = some (at0 (l.map tx) i)) (hall : ∀ i, recAll (l.take i) = some (comma ((l.take i).map tx))) (ht : t.length ≤ 32) (h0 : 0 ≤ u) (h1 : u ≤ 4294967295) (hl : Sml l) :
    parse_function_b recAll recAt n ⟨k, a, t, u, l⟩ = some (txF t u (l.map tx)) := by
  unfold Sml at hl
  have b1 := at0_le (l.map tx) (l.length - 1)
  have b2 := last_len (l.map tx)
  rw [List.length_map] at b2
  have e1 : max (IntKind.i64.wrap ((l.length : Int) - 1)) 0 = ((l.length - 1 : Nat) : Int) := by rw [IntKind.wrap_i64]; omega
  have h4 := hat (l.length - 1)
  unfold parse_function_b
  simp only
  rw [e1, need_of (by omega), Int.toNat_natCast, hall, Option.bind_some, h4]
  rw [and_bit h0 h1 0 (by decide) (b := 1) rfl, and_bit h0 h1 1 (by decide) (b := 2) rfl, and_bit h0 h1 2 (by decide) (b := 4) rfl]
  unfold txF
  rw [List.map_take, List.length_map, Int.ediv_one] at *
  simp only [decide_eq_true_eq, Option.bind_some]
  repeat' split
  all_goals (simp (disch := (simp only [List.length_append, List.length_cons, List.length_nil, List.length_map] at *; omega)) only [need_of])
  all_goals simp
theorem two_lt (n : Nat) : ((2 : Int) < (n : Int)) = (2 < n) := by simp only [eq_iff_iff]; omega
theorem dig_eq {u : Int} (h0 : 0 ≤ u) (h1 : u ≤ 4294967295) : parse_digits u = some (Lib.decDigits u.toNat) := need_of ⟨h0, h1⟩
theorem stmt_eq {n : Nat} {k a : Int} {t : Str} {u : Int} {l : List Nd} (hat : ∀ i : Nat, recAt ⟨k, a, t, u, l⟩ (i : Int) = some (at0 (l.map tx) i)) (hall : recAll l = some (comma (l.map tx))) (ht : t.length ≤ 32) (h0 : 0 ≤ u) (h1 : u ≤ 4294967295) (hl : Sml l) :
    parse_statement_b recAt recAll n ⟨k, a, t, u, l⟩ = some (txS k t u (l.map tx)) := by
  unfold Sml at hl
  have b1 := at0_three (l.map tx)
  have b2 := comma_len (l.map tx)
  rw [List.length_map] at b2
  have b5 : (Lib.decDigits u.toNat).length ≤ 10 := dec_len 9 _ (by omega)
  have a0 := hat 0
  have a1 := hat 1
  have a2 := hat 2
  rw [show ((0 : Nat) : Int) = 0 from rfl] at a0
  rw [show ((1 : Nat) : Int) = 1 from rfl] at a1
  rw [show ((2 : Nat) : Int) = 2 from rfl] at a2
  unfold parse_statement_b txS
  simp only [a0, a1, a2, hall, dig_eq h0 h1, Option.bind_some, beq_iff_eq, decide_eq_true_eq, List.length_map, two_lt]
  by_cases h5 : k = 5
  · subst h5
    simp only [Int.reduceEq, ↓reduceIte]
    try simp (disch := (simp only [List.length_append, List.length_cons, List.length_nil] at *; omega)) only [need_of]
    try simp
  by_cases h6 : k = 6
  · subst h6
    simp only [Int.reduceEq, ↓reduceIte]
    try simp (disch := (simp only [List.length_append, List.length_cons, List.length_nil] at *; omega)) only [need_of]
    try simp
  by_cases h7 : k = 7
  · subst h7
    simp only [Int.reduceEq, ↓reduceIte]
    try simp (disch := (simp only [List.length_append, List.length_cons, List.length_nil] at *; omega)) only [need_of]
    try simp
  by_cases h8 : k = 8
  · subst h8
    simp only [Int.reduceEq, ↓reduceIte]
    try simp (disch := (simp only [List.length_append, List.length_cons, List.length_nil] at *; omega)) only [need_of]
    try simp
  by_cases h9 : k = 9
  · subst h9
    simp only [Int.reduceEq, ↓reduceIte]
    try simp (disch := (simp only [List.length_append, List.length_cons, List.length_nil] at *; omega)) only [need_of]
    try simp
  by_cases h10 : k = 10
  · subst h10
    simp only [Int.reduceEq, ↓reduceIte]
    try simp (disch := (simp only [List.length_append, List.length_cons, List.length_nil] at *; omega)) only [need_of]
    try simp
  by_cases h12 : k = 12
  · subst h12
    simp only [Int.reduceEq, ↓reduceIte]
    try simp (disch := (simp only [List.length_append, List.length_cons, List.length_nil] at *; omega)) only [need_of]
    try simp
  by_cases h13 : k = 13
  · subst h13
    simp only [Int.reduceEq, ↓reduceIte]
    try simp (disch := (simp only [List.length_append, List.length_cons, List.length_nil] at *; omega)) only [need_of]
    try simp
  simp only [h5, h6, h7, h8, h9, h10, h12, h13, ↓reduceIte]
  split
  all_goals (simp (disch := (simp only [List.length_append, List.length_cons, List.length_nil] at *; omega)) only [need_of])
  all_goals simp
theorem text_eq {n : Nat} {recS : List Nd → Option Str} {recF recP recSt : Nd → Option Str} {k a : Int} {t : Str} {u : Int} {l : List Nd} (hs : recS l = some (sev (l.map tx))) (hf : recF ⟨k, a, t, u, l⟩ = some (txF t u (l.map tx)))
    (hp : recP ⟨k, a, t, u, l⟩ = some (if 1 ≤ u ∧ u < 4 then t ++ ([58, 32] ++ kindS u) else t ++ ([58, 32, 91] ++ (at0 (l.map tx) 0 ++ [93])))) (hst : recSt ⟨k, a, t, u, l⟩ = some (txS k t u (l.map tx)))
    (hat : ∀ i : Nat, recAt ⟨k, a, t, u, l⟩ (i : Int) = some (at0 (l.map tx) i)) (hall : recAll l = some (comma (l.map tx))) (ht : t.length ≤ 32) (hu0 : 0 ≤ u) (hu1 : u ≤ 4294967295) (hl : Sml l) :
    parse_text_b recS recF recP recAt recAll recSt n ⟨k, a, t, u, l⟩ = some (tx ⟨k, a, t, u, l⟩) := by
  unfold Sml at hl
  have b1 := at0_three (l.map tx)
  have b2 := comma_len (l.map tx)
  have b3 := sev_len (l.map tx)
  rw [List.length_map] at b2 b3
  have a0 := hat 0
  have a1 := hat 1
  rw [show ((0 : Nat) : Int) = 0 from rfl] at a0
  rw [show ((1 : Nat) : Int) = 1 from rfl] at a1
  rw [tx_mk]
  unfold parse_text_b txK
  simp only [a0, a1, hs, hf, hp, hst, hall, dig_eq hu0 hu1, Option.bind_some, beq_iff_eq]
  by_cases h1 : k = 1
  · subst h1
    simp only [Int.reduceEq, ↓reduceIte]
    try simp (disch := (simp only [List.length_append, List.length_cons, List.length_nil] at *; omega)) only [need_of]
    try simp
  by_cases h2 : k = 2
  · subst h2
    simp only [Int.reduceEq, ↓reduceIte]
    try simp (disch := (simp only [List.length_append, List.length_cons, List.length_nil] at *; omega)) only [need_of]
    try simp
  by_cases h3 : k = 3
  · subst h3
    simp only [Int.reduceEq, ↓reduceIte]
    try simp (disch := (simp only [List.length_append, List.length_cons, List.length_nil] at *; omega)) only [need_of]
    try simp
  by_cases h4 : k = 4
  · subst h4
    simp only [Int.reduceEq, ↓reduceIte]
    try simp (disch := (simp only [List.length_append, List.length_cons, List.length_nil] at *; omega)) only [need_of]
    try simp
  by_cases h14 : k = 14
  · subst h14
    simp only [Int.reduceEq, ↓reduceIte]
    try simp (disch := (simp only [List.length_append, List.length_cons, List.length_nil] at *; omega)) only [need_of]
    try simp
  by_cases h15 : k = 15
  · subst h15
    simp only [Int.reduceEq, ↓reduceIte]
    try simp (disch := (simp only [List.length_append, List.length_cons, List.length_nil] at *; omega)) only [need_of]
    try simp
  by_cases h16 : k = 16
  · subst h16
    simp only [Int.reduceEq, ↓reduceIte]
    try simp (disch := (simp only [List.length_append, List.length_cons, List.length_nil] at *; omega)) only [need_of]
    try simp
  by_cases h17 : k = 17
  · subst h17
    simp only [Int.reduceEq, ↓reduceIte]
    try simp (disch := (simp only [List.length_append, List.length_cons, List.length_nil] at *; omega)) only [need_of]
    try simp
  by_cases h18 : k = 18
  · subst h18
    simp only [Int.reduceEq, ↓reduceIte]
    try simp (disch := (simp only [List.length_append, List.length_cons, List.length_nil] at *; omega)) only [need_of]
    try simp
  by_cases h19 : k = 19
  · subst h19
    simp only [Int.reduceEq, ↓reduceIte]
    try simp (disch := (simp only [List.length_append, List.length_cons, List.length_nil] at *; omega)) only [need_of]
    try simp
  simp only [h1, h2, h3, h4, h14, h15, h16, h17, h18, h19, ↓reduceIte]
end
end Go.Proofs.YtolhahlnccekcaaDoor.Abs
namespace Go.Proofs.YtolhahlnccekcaaDoor.Abs
open Go.RowKit
set_option linter.unusedVariables false
set_option linter.unusedSimpArgs false
theorem sml_of {l : List Nd} (h : ∀ x ∈ l, OKN x) (hs : szL l ≤ 20000) : Sml l := by
  have key : ∀ l : List Nd, (∀ x ∈ l, OKN x) → (tot (l.map tx) + 2 * l.length : Int) ≤ 100 * szL l := by
    intro l
    induction l with
    | nil => intro _; simp [tot, szL_nil]
    | cons x l ih2 =>
      intro h4
      have k1 := tx_len x (h4 x List.mem_cons_self)
      have k2 := ih2 (fun y hy => h4 y (List.mem_cons_of_mem _ hy))
      rw [List.map_cons, tot_cons, szL_cons, List.length_cons]
      omega
  have := key l h
  unfold Sml
  omega
theorem szL_mem' {l : List Nd} {x : Nd} (h : x ∈ l) : sz x ≤ szL l := by
  obtain ⟨l1, l2, rfl⟩ := List.append_of_mem h
  have h1 := szL_ge l1
  have h2 := szL_ge l2
  rw [szL_app, szL_cons]
  omega
theorem text_all (x : Nd) : OKN x → sz x ≤ 20000 → ∀ n : Nat, 4 * sz x + 4 ≤ n → (parse_text_grp n).1 x = some (tx x) := by
  induction x using Nd_ind with
  | h k a t u l ih =>
    intro ho hs n hn
    cases ho with
    | mk ht h0 h1 hc =>
      rw [sz_mk] at hs hn
      have hge := szL_ge l
      have hl : Sml l := sml_of hc (by omega)
      have hY : ∀ q : Nat, 4 * szL l + 4 ≤ q → ∀ y ∈ l, (parse_text_grp q).1 y = some (tx y) := fun q hq y hy => by
        have := szL_mem' hy
        exact ih y hy (hc y hy) (by omega) q (by omega)
      have hAt : ∀ q : Nat, 4 * szL l + 4 ≤ q → ∀ i : Nat, (parse_text_grp (q + 1)).2.2.2.2.1 ⟨k, a, t, u, l⟩ (i : Int) = some (at0 (l.map tx) i) := fun q hq i => at_eq (n := q) (x := ⟨k, a, t, u, l⟩) (hY q hq) i
      have hAll : ∀ q : Nat, 4 * szL l + 4 ≤ q → ∀ i, (parse_text_grp (q + 1)).2.2.2.2.2.1 (l.take i) = some (comma ((l.take i).map tx)) := fun q hq i => by
        have hsp : szL (l.take i) + szL (l.drop i) = szL l := by rw [← szL_app, List.take_append_drop]
        have := szL_ge (l.drop i)
        exact all_eq (fun y hy => hY q hq y (List.mem_of_mem_take hy)) (sml_of (fun y hy => hc y (List.mem_of_mem_take hy)) (by omega)) (by rw [List.length_take]; omega)
      obtain ⟨q, rfl⟩ : ∃ q, n = q + 1 + 1 + 1 := ⟨n - 3, by omega⟩
      have hAl := fun q hq => (List.take_length (l := l)) ▸ hAll q hq l.length
      have hq : 4 * szL l + 4 ≤ ((q : Nat) : Int) := by omega
      have hq1 : 4 * szL l + 4 ≤ ((q + 1 : Nat) : Int) := by omega
      have hs1 : (parse_text_grp (q + 1 + 1)).2.1 l = some (sev (l.map tx)) := by
        have hl' := hl
        unfold Sml at hl'
        exact sev_eq (s := []) (hY (q + 1) hq1) (by simp; omega)
      exact text_eq (n := q + 1 + 1) hs1 (fun_eq (n := q + 1) (hAt q hq) (hAll q hq) ht h0 h1 hl) (par_eq (n := q + 1) (hAt q hq) ht h0 h1 hl) (stmt_eq (n := q + 1) (hAt q hq) (hAl q hq) ht h0 h1 hl) (hAt (q + 1) hq1) (hAl (q + 1) hq1) ht h0 h1 hl
theorem Show_eq {n : Nat} {x : Nd} (h : OKN x) (hs : sz x ≤ 20000) (hn : 4 * sz x + 4 ≤ n) : parse_Show n x = some (tx x) := by
  unfold parse_Show parse_text
  rw [text_all x h hs n hn]
  rfl
theorem OKN.er {x : Nd} (h : OKN x) : OKN (erN x) := by
  induction h with
  | @mk k a t n l h1 h2 h3 h4 ih =>
    rw [erN_mk]
    exact .mk h1 h2 h3 fun y hy => by
      obtain ⟨z, hz, rfl⟩ := List.mem_map.1 hy
      exact ih z hz
theorem OKN.of_er {x : Nd} : OKN (erN x) → OKN x := by
  induction x using Nd_ind with
  | h k a t n l ih =>
    intro h
    rw [erN_mk] at h
    cases h with
    | mk h1 h2 h3 h4 => exact .mk h1 h2 h3 fun y hy => ih y hy (h4 _ (List.mem_map_of_mem hy))
theorem shows_true (a : Str) (n : Nat) (hn : n = 1100000) (ha : remontoirelaw10_anchor n = some true) : remontoirelaw10_ParseShows n a = some true := by
  unfold remontoirelaw10_ParseShows
  rw [ha, Option.bind_some, if_neg (by decide)]
  by_cases hl : 3000 < a.length
  · rw [if_pos (decide_eq_true (by omega))]
  rw [if_neg (by rw [decide_eq_true_eq]; omega)]
  obtain ⟨r, hr, _⟩ := Parse_tot (n := n) (s := a) (by omega)
  rw [hr, Option.bind_some]
  by_cases he : r.2.1 = 0
  · rw [if_neg (by simp [he])]
    obtain ⟨q, e1, e2, e3⟩ := shows_parse (n := n) (m := n) (by omega) hr he (by omega)
    have hok := parse_okn (by omega) hr he
    have hlen := tx_len r.1 hok
    rw [Show_eq hok (by omega) (by omega), Option.bind_some, need_of (by omega), e1, Option.bind_some]
    rcases e2 with e2 | e2 | ⟨e2, e4⟩
    · rw [if_pos (by simp [e2]), Option.bind_some, if_pos rfl]
    · rw [if_neg (by simp [e2]), Option.bind_some, if_pos (by simp [e2])]
    · obtain ⟨s, es, hse⟩ := Same_ok (n := n) (x := r.1) (y := q.1) (by omega) (by omega)
      have hs : s = true := hse.2 e4.symm
      have hsz : sz q.1 = sz r.1 := by rw [← sz_er q.1, e4, sz_er]
      have hokq : OKN q.1 := OKN.of_er (e4 ▸ hok.er)
      rw [if_neg (by simp [e2]), Option.bind_some, if_neg (by simp [e2]), if_pos (by simp [e2]), es, Option.bind_some, if_pos hs, Show_eq hokq (by omega) (by omega), Option.bind_some]
      rw [← tx_er q.1, e4, tx_er]
      simp
  · rw [if_pos (by simpa using he)]
theorem anchor_shows : remontoirelaw10_anchor 1100000 = some true := by kernel_rfl
theorem shows_ex : ∃ n, ∀ a : Str, remontoirelaw10_ParseShows n a = some true := ⟨1100000, fun a => shows_true a _ rfl anchor_shows⟩
end Go.Proofs.YtolhahlnccekcaaDoor.Abs
