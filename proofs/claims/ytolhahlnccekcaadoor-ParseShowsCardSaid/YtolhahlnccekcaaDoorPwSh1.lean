/-
  The lexer told by what a text is: pieces of a text and their tokens.
-/
import Derived.Test.YtolhahlnccekcaaDoorPwJoi1
import Derived.Lib.ItoaNum
import Derived.Test.YtolhahlnccekcaaDoorPwSame10
namespace Go.Proofs.YtolhahlnccekcaaDoor.Abs
open Go.RowKit
set_option linter.unusedVariables false
set_option linter.unusedSimpArgs false
abbrev AT := Int × Str × Int
def absT (t : Tok) : AT := (t.Kind_, t.Text_, t.Num_)
/-- the next token of a text -/
def Nx (s : Str) (k : Int) (t : Str) (u : Int) : Prop := ∀ (n : Nat) (a : Str) (v : Nat), a.length < 1000000 → a.length + 100 < n → v < a.length → a.drop v = s → lex_next n a v = some (⟨k, v, t, u⟩, 0)
inductive Lx : Str → List AT → Prop
  | nil : Lx [] []
  | bl {b r ts} : isBl b.toNat = true → Lx r ts → Lx (b :: r) ts
  | tok {b r k t u rest ts} : b :: r = t ++ rest → isBl b.toNat = false → (b :: r).take 2 ≠ [47, 47] → Nx (b :: r) k t u → Lx rest ts → Lx (b :: r) ((k, t, u) :: ts)
theorem get_of_drop {a r : Str} {v : Nat} {b : UInt8} (h : a.drop v = b :: r) : a[v]? = some b := by
  have := congrArg (fun l => l[0]?) h
  simpa [List.getElem?_drop] using this
theorem Lx.tk {r : Str} {ats : List AT} (h : Lx r ats) : ∀ (n : Nat) (a : Str) (v : Nat), a.length < 1000000 → a.length + 100 < n → v ≤ a.length → a.drop v = r → ∃ k l, Sk a v k ∧ Tk n a k l ∧ l.map absT = ats := by
  induction h with
  | nil =>
    intro n a v _ _ hv hr
    have : v = a.length := by
      have := congrArg List.length hr
      rw [List.length_drop] at this
      simp at this
      omega
    subst this
    exact ⟨_, [], .out, .nil, rfl⟩
  | @bl b r ts hb h ih =>
    intro n a v ha hn hv hr
    have hlt : v < a.length := by
      have := congrArg List.length hr
      rw [List.length_drop] at this
      simp at this
      omega
    have hg : a[v]? = some b := get_of_drop hr
    have hr' : a.drop (v + 1) = r := by rw [← List.drop_drop, hr]; rfl
    obtain ⟨k, l, h1, h2, h3⟩ := ih n a (v + 1) ha hn hlt hr'
    exact ⟨k, l, .bl hg hb h1, h2, h3⟩
  | @tok b r k t u rest ts he hb h2 hx h ih =>
    intro n a v ha hn hv hr
    have hlen := congrArg List.length hr
    rw [List.length_drop] at hlen
    have hlt : v < a.length := by simp at hlen; omega
    have hg : a[v]? = some b := get_of_drop hr
    have hr' : a.drop (v + t.length) = rest := by rw [← List.drop_drop, hr, he, List.drop_left]
    have hle : v + t.length ≤ a.length := by rw [he, List.length_append] at hlen; omega
    obtain ⟨k', l, h3, h4, h5⟩ := ih n a (v + t.length) ha hn hle hr'
    refine ⟨v, ⟨k, v, t, u⟩ :: l, .tok hg hb (by rw [hr]; exact h2), .cons hlt (hx n a v ha hn hlt hr) h3 h4, ?_⟩
    rw [List.map_cons, h5]; rfl
theorem Lx.tokens {s : Str} {ats : List AT} (h : Lx s ats) {n : Nat} (hs : s.length ≤ 65536) (hn : s.length + 100 < n) : ∃ l, lex_Tokens n s = some (l ++ [⟨4, s.length, [], 0⟩], 0, 0) ∧ l.map absT = ats := by
  obtain ⟨k, l, h1, h2, h3⟩ := h.tk n s 0 (by omega) (by omega) (by omega) rfl
  exact ⟨l, Tk_tokens hs (by omega) (by omega) h1 h2, h3⟩
/-- a text's first byte goes on with no word -/
def nw (r : Str) : Prop := ∀ c r', r = c :: r' → lod c = false
theorem takeWhile_all {t r : Str} (h : ∀ b ∈ t, lod b = true) (hr : nw r) : (t ++ r).takeWhile lod = t := by
  rw [List.takeWhile_append_of_pos h]
  cases r with
  | nil => simp
  | cons c r => rw [List.takeWhile_cons_of_neg (by rw [hr c r rfl]; decide), List.append_nil]
theorem next_pre {n : Nat} {a : Str} {v : Nat} (ha : a.length < 1000000) (hn : a.length + 100 < n) (hv : v < a.length) {b : UInt8} {r : Str} (hd : a.drop v = b :: r) : lex_word n (a.drop v) = some ((b :: r).takeWhile lod) ∧ idxL a (v : Int) = some b ∧ ((0 : Int) ≤ v ∧ (v : Int) ≤ a.length) := by
  refine ⟨by rw [hd, word_eq (by rw [← hd, List.length_drop]; omega) (by rw [← hd, List.length_drop]; omega)], ?_, by omega⟩
  unfold idxL
  rw [if_pos (by omega), Int.toNat_natCast, get_of_drop hd]
theorem Nx_name {b : UInt8} {t r : Str} (hb : isLet b.toNat = true) (ht : ∀ c ∈ b :: t, lod c = true) (hl : (b :: t).length ≤ 32) (hr : nw r) : Nx (b :: t ++ r) 1 (b :: t) 0 := by
  intro n a v ha hn hv hd
  obtain ⟨h1, h2, h3⟩ := next_pre ha hn hv (b := b) (r := t ++ r) hd
  have hw := takeWhile_all ht hr
  unfold lex_next
  rw [need_of h3, Int.toNat_natCast, h1, Option.bind_some, h2, Option.bind_some, Letter_eq, Option.bind_some, if_pos hb, show (b :: (t ++ r)).takeWhile lod = b :: t from hw, if_neg (by simp only [decide_eq_true_eq]; omega)]
def dv (s : Str) : Nat := s.foldl (fun a b => a * 10 + (b.toNat - 48)) 0
theorem dv_snoc (s : Str) (b : UInt8) : dv (s ++ [b]) = dv s * 10 + (b.toNat - 48) := by
  unfold dv
  rw [List.foldl_append]; rfl
theorem dig_of {k : Nat} (h : k < 10) : (UInt8.ofNat (48 + k)).toNat = 48 + k := by
  rw [UInt8.toNat_ofNat']; omega
theorem dec_ok (u : Nat) : dv (Lib.decDigits u) = u ∧ (∀ b ∈ Lib.decDigits u, isDig b.toNat = true) ∧ Lib.decDigits u ≠ [] := by
  induction u using Nat.strongRecOn with
  | ind u ih =>
    rw [Lib.decDigits]
    split
    · rename_i h
      refine ⟨?_, ?_, by simp⟩
      · show 0 * 10 + ((UInt8.ofNat (48 + u)).toNat - 48) = u
        rw [dig_of h]; omega
      · intro b hb
        rw [List.mem_singleton.1 hb, dig_of h]
        simp only [isDig, Bool.and_eq_true, decide_eq_true_eq]; omega
    · rename_i h
      obtain ⟨h1, h2, h3⟩ := ih (u / 10) (by omega)
      have hm : u % 10 < 10 := Nat.mod_lt _ (by decide)
      refine ⟨?_, ?_, by simp⟩
      · rw [dv_snoc, h1, dig_of hm]; omega
      · intro b hb
        rcases List.mem_append.1 hb with hb | hb
        · exact h2 b hb
        · rw [List.mem_singleton.1 hb, dig_of hm]
          simp only [isDig, Bool.and_eq_true, decide_eq_true_eq]; omega
theorem ib_dig {b : UInt8} (h : isDig b.toNat = true) : Lib.indexByte [48, 49, 50, 51, 52, 53, 54, 55, 56, 57] b = ((b.toNat - 48 : Nat) : Int) := by
  have key : ∀ k : Fin 10, Lib.indexByte [48, 49, 50, 51, 52, 53, 54, 55, 56, 57] (UInt8.ofNat (48 + k.val)) = (k.val : Int) := by decide
  simp only [isDig, Bool.and_eq_true, decide_eq_true_eq] at h
  have hk := key ⟨b.toNat - 48, by omega⟩
  have hb : UInt8.ofNat (48 + (b.toNat - 48)) = b := by
    rw [show 48 + (b.toNat - 48) = b.toNat by omega]; simp
  simp only [hb] at hk
  exact hk
theorem dv_mono (s r : Str) : dv s ≤ dv (s ++ r) := by
  induction r generalizing s with
  | nil => rw [List.append_nil]; exact Nat.le_refl _
  | cons b r ih =>
    have := ih (s ++ [b])
    rw [dv_snoc, List.append_assoc] at this
    exact Nat.le_trans (by omega) this
theorem value_dec (s : Str) (hs : ∀ b ∈ s, isDig b.toNat = true) (hv : dv s ≤ 4294967295) (hl : s.length < 1000000) : ∀ (c v : Nat), s.length < v + c → v ≤ s.length → lex_value_l2 s c (dv (s.take v)) v = some (.inl (dv s : Int)) := by
  intro c
  induction c with
  | zero => intro v h1 h2; omega
  | succ c ih =>
    intro v h1 h2
    unfold lex_value_l2
    by_cases h4 : v < s.length
    · have hx : s[v]? = some s[v] := List.getElem?_eq_getElem h4
      have hi : idxL s (v : Int) = some s[v] := by
        unfold idxL
        rw [if_pos (by omega), Int.toNat_natCast, hx]
      have hd := hs _ (List.getElem_mem h4)
      have hst := take_step' hx
      have hm : dv (s.take (v + 1)) ≤ dv s := by
        have := dv_mono (s.take (v + 1)) (s.drop (v + 1))
        rwa [List.take_append_drop] at this
      rw [hst, dv_snoc] at hm
      have hib := ib_dig hd
      have htk : (([48, 49, 50, 51, 52, 53, 54, 55, 56, 57, 97, 98, 99, 100, 101, 102] : Str).take (10 : Int).toNat) = [48, 49, 50, 51, 52, 53, 54, 55, 56, 57] := by decide
      have hbb : ((s[v].toNat : Int).toNat).toUInt8 = s[v] := by simp
      rw [if_pos (by simp only [decide_eq_true_eq]; omega), need_of (by decide), hi, Option.bind_some, IndexByte_eq, htk, hbb, hib, Option.bind_some]
      rw [wrap64 (n := (dv (s.take v) : Int) * 10) (by omega) (by omega), wrap64 (by omega) (by omega), if_neg (by simp only [decide_eq_true_eq]; omega), Option.bind_some, if_neg (by simp only [decide_eq_true_eq]; omega), wrap64 (n := (v : Int) + 1) (by omega) (by omega)]
      have := ih (v + 1) (by omega) (by omega)
      rw [hst, dv_snoc] at this
      rw [← this]
      congr 1
    · rw [if_neg (by simp only [decide_eq_true_eq]; omega), List.take_of_length_le (by omega)]
theorem lod_dig {b : UInt8} (h : isDig b.toNat = true) : lod b = true := by
  unfold lod; rw [h]; simp
theorem dig_let {c : Int} (h : isDig c = true) : isLet c = false := by
  simp only [isDig, Bool.and_eq_true, decide_eq_true_eq] at h
  simp only [isLet, Bool.or_eq_false_iff, Bool.and_eq_false_iff, decide_eq_false_iff_not, beq_eq_false_iff_ne]
  omega
theorem Nx_num {u : Nat} (hu : u ≤ 4294967295) {r : Str} (hr : nw r) : Nx (Lib.decDigits u ++ r) 2 (Lib.decDigits u) u := by
  obtain ⟨h1, h2, h3⟩ := dec_ok u
  cases hs : Lib.decDigits u with
  | nil => exact absurd hs h3
  | cons b t =>
    rw [hs] at h1 h2
    intro n a v ha hn hv hd
    obtain ⟨k1, k2, k3⟩ := next_pre ha hn hv (b := b) (r := t ++ r) hd
    have hw := takeWhile_all (t := b :: t) (fun c hc => lod_dig (h2 c hc)) hr
    have hb := h2 b List.mem_cons_self
    have hl : (b :: t).length < 1000000 := by
      have := congrArg List.length hd
      rw [List.length_drop, List.length_append] at this
      omega
    have hp : (b :: t).take ([48, 120] : Str).length ≠ ([48, 120] : Str) := by
      intro e
      cases t with
      | nil => exact absurd (congrArg List.length e) (by simp)
      | cons c t =>
        have e2 : [b, c] = ([48, 120] : Str) := e
        injection e2 with e3 e4
        injection e4 with e4
        have := h2 c (by simp)
        rw [e4] at this
        revert this; decide
    have hn2 : (b :: t).length < n := by
      have := congrArg List.length hd
      rw [List.length_drop, List.length_append] at this
      omega
    have hval : lex_value n (b :: t) = some ((u : Int), true) := by
      unfold lex_value
      rw [CutPrefix_eq, Option.bind_some, if_neg hp, if_neg (by simp)]
      have := value_dec (b :: t) h2 (by rw [h1]; exact hu) hl n 0 (by omega) (by omega)
      rw [show dv ((b :: t).take 0) = 0 from rfl, h1] at this
      rw [show ((0 : Nat) : Int) = 0 from rfl] at this
      rw [this, Option.bind_some]
      show some (IntKind.u32.wrap (u : Int), decide ((b :: t) ≠ [])) = _
      have hwu : IntKind.u32.wrap (u : Int) = u := by rw [IntKind.wrap_u32]; omega
      rw [hwu]; simp
    unfold lex_next
    rw [need_of k3, Int.toNat_natCast, k1, Option.bind_some, k2, Option.bind_some, Letter_eq, Option.bind_some, if_neg (by rw [dig_let hb]; decide), Digit_eq, Option.bind_some, if_pos hb, show (b :: (t ++ r)).takeWhile lod = b :: t from hw, hval, Option.bind_some, if_neg (by simp)]
theorem Nx_sign {b : UInt8} {t r : Str} (h1 : isLet b.toNat = false) (h2 : isDig b.toNat = false) (hs : signOf (b :: t ++ r) = b :: t) : Nx (b :: t ++ r) 3 (b :: t) 0 := by
  intro n a v ha hn hv hd
  obtain ⟨k1, k2, k3⟩ := next_pre ha hn hv (b := b) (r := t ++ r) hd
  unfold lex_next
  rw [need_of k3, Int.toNat_natCast, k1, Option.bind_some, k2, Option.bind_some, Letter_eq, Option.bind_some, if_neg (by rw [h1]; decide), Digit_eq, Option.bind_some, if_neg (by rw [h2]; decide), need_of k3, sign_eq (by omega), Option.bind_some, hd, hs, if_neg (by simp)]
end Go.Proofs.YtolhahlnccekcaaDoor.Abs
namespace Go.Proofs.YtolhahlnccekcaaDoor.Abs
open Go.RowKit
set_option linter.unusedVariables false
set_option linter.unusedSimpArgs false
def comma : List Str → Str
  | [] => []
  | [x] => x
  | x :: y :: l => x ++ ([44, 32] ++ comma (y :: l))
def at0 (ls : List Str) (i : Nat) : Str := (ls[i]?).getD []
def sev : List Str → Str
  | [] => []
  | x :: l => x ++ (10 :: sev l)
def txF (t : Str) (n : Int) (ls : List Str) : Str :=
  (if n % 2 = 1 then [101, 120, 112, 111, 114, 116, 32] else []) ++ ([102, 110, 32] ++ (t ++ (40 :: (comma (ls.take (ls.length - 1)) ++ (41 :: ((if n / 2 % 2 = 1 then [32, 45, 62, 32, 117, 51, 50] else []) ++ ((if n / 4 % 2 = 1 then [32, 45, 62, 32, 117, 54, 52] else []) ++ (32 :: at0 ls (ls.length - 1)))))))))
def kindS (n : Int) : Str := if n = 1 then [112, 117, 98] else if n = 2 then [117, 51, 50] else [117, 54, 52]
def txS (k : Int) (t : Str) (n : Int) (ls : List Str) : Str :=
  if k = 5 then [108, 101, 116, 32] ++ (t ++ ([32, 61, 32] ++ (at0 ls 0 ++ [59])))
  else if k = 6 then [118, 97, 114, 32] ++ (t ++ ([32, 61, 32] ++ (at0 ls 0 ++ [59])))
  else if k = 7 then [97, 114, 114, 32] ++ (t ++ (91 :: (Lib.decDigits n.toNat ++ [93, 59])))
  else if k = 8 then t ++ ([32, 61, 32] ++ (at0 ls 0 ++ [59]))
  else if k = 9 then t ++ (91 :: (at0 ls 0 ++ ([93, 32, 61, 32] ++ (at0 ls 1 ++ [59]))))
  else if k = 10 then t ++ (40 :: (comma ls ++ [41, 59]))
  else if k = 12 then [102, 111, 114, 32] ++ (t ++ ([32, 105, 110, 32] ++ (at0 ls 0 ++ ([32, 46, 46, 32] ++ (at0 ls 1 ++ (32 :: at0 ls 2))))))
  else if k = 13 then [114, 101, 116, 117, 114, 110, 32] ++ (at0 ls 0 ++ [59])
  else [105, 102, 32] ++ (at0 ls 0 ++ (32 :: (at0 ls 1 ++ (if 2 < ls.length then [32, 101, 108, 115, 101, 32] ++ at0 ls 2 else []))))
def txK (k : Int) (t : Str) (n : Int) (ls : List Str) : Str :=
  if k = 1 then sev ls
  else if k = 2 then txF t n ls
  else if k = 3 then (if 1 ≤ n ∧ n < 4 then t ++ ([58, 32] ++ kindS n) else t ++ ([58, 32, 91] ++ (at0 ls 0 ++ [93])))
  else if k = 4 then [123, 10] ++ (sev ls ++ [125])
  else if k = 14 then Lib.decDigits n.toNat
  else if k = 15 then t
  else if k = 16 then t ++ (91 :: (at0 ls 0 ++ [93]))
  else if k = 17 then t ++ (40 :: (comma ls ++ [41]))
  else if k = 18 then 40 :: (t ++ (at0 ls 0 ++ [41]))
  else if k = 19 then 40 :: (at0 ls 0 ++ (32 :: (t ++ (32 :: (at0 ls 1 ++ [41])))))
  else txS k t n ls
mutual
def tx : Nd → Str
  | ⟨k, _, t, n, l⟩ => txK k t n (txL l)
def txL : List Nd → List Str
  | [] => []
  | x :: l => tx x :: txL l
end
theorem txL_map (l : List Nd) : txL l = l.map tx := by
  induction l with
  | nil => rw [txL]; rfl
  | cons x l ih => rw [txL, ih]; rfl
theorem tx_mk (k a : Int) (t : Str) (n : Int) (l : List Nd) : tx ⟨k, a, t, n, l⟩ = txK k t n (l.map tx) := by rw [tx, txL_map]
theorem tx_er (x : Nd) : tx (erN x) = tx x := by
  induction x using Nd_ind with
  | h k a t n l ih =>
    rw [erN_mk, tx_mk, tx_mk, List.map_map]
    congr 1
    exact List.map_congr_left ih
/-! pieces -/
/-- what follows an expression -/
def fo (r : Str) : Prop := ∃ c r', r = c :: r' ∧ c ∈ ([41, 93, 44, 59, 32, 10] : Str)
theorem fo.nw {r : Str} (h : fo r) : nw r := by
  obtain ⟨c, r', rfl, hc⟩ := h
  intro c' r'' e
  cases e
  have : ∀ c ∈ ([41, 93, 44, 59, 32, 10] : Str), lod c = false := by decide
  exact this c hc
theorem fo_of {c : UInt8} {r : Str} (h : c ∈ ([41, 93, 44, 59, 32, 10] : Str)) : fo (c :: r) := ⟨c, r, rfl, h⟩
def nameOk (t : Str) : Prop := (∃ b t', t = b :: t' ∧ isLet b.toNat = true) ∧ (∀ c ∈ t, lod c = true) ∧ t.length ≤ 32
theorem Lx.sp {r : Str} {ts : List AT} (h : Lx r ts) : Lx (32 :: r) ts := .bl (by decide) h
theorem Lx.nl {r : Str} {ts : List AT} (h : Lx r ts) : Lx (10 :: r) ts := .bl (by decide) h
theorem let_blank {c : Int} (h : isLet c = true) : isBl c = false ∧ c ≠ 47 := by
  simp only [isLet, Bool.or_eq_true, Bool.and_eq_true, decide_eq_true_eq, beq_iff_eq] at h
  refine ⟨?_, by omega⟩
  simp only [isBl, Bool.or_eq_false_iff, beq_eq_false_iff_ne]
  omega
theorem dig_blank {c : Int} (h : isDig c = true) : isBl c = false ∧ c ≠ 47 := by
  simp only [isDig, Bool.and_eq_true, decide_eq_true_eq] at h
  refine ⟨?_, by omega⟩
  simp only [isBl, Bool.or_eq_false_iff, beq_eq_false_iff_ne]
  omega
theorem no_rem {b : UInt8} {r : Str} (h : (b.toNat : Int) ≠ 47) : (b :: r).take 2 ≠ [47, 47] := by
  intro e
  rw [List.take_succ_cons] at e
  injection e with e1 _
  rw [e1] at h
  exact h rfl
theorem Lx.name {t r : Str} {ts : List AT} (ht : nameOk t) (hr : nw r) (h : Lx r ts) : Lx (t ++ r) ((1, t, 0) :: ts) := by
  obtain ⟨⟨b, t', rfl, hb⟩, h2, h3⟩ := ht
  obtain ⟨h4, h5⟩ := let_blank hb
  exact .tok rfl h4 (no_rem h5) (Nx_name hb h2 h3 hr) h
theorem Lx.num {u : Nat} {r : Str} {ts : List AT} (hu : u ≤ 4294967295) (hr : nw r) (h : Lx r ts) : Lx (Lib.decDigits u ++ r) ((2, Lib.decDigits u, u) :: ts) := by
  obtain ⟨h1, h2, h3⟩ := dec_ok u
  have hx := Nx_num hu hr
  cases hs : Lib.decDigits u with
  | nil => exact absurd hs h3
  | cons b t =>
    rw [hs] at h2 hx
    obtain ⟨h4, h5⟩ := dig_blank (h2 b List.mem_cons_self)
    exact .tok rfl h4 (no_rem h5) hx h
/-- the signs that begin no other -/
theorem Lx.s1 {c : UInt8} {r : Str} {ts : List AT} (hc : c ∈ ([40, 41, 123, 125, 91, 93, 44, 59, 58, 126] : Str)) (h : Lx r ts) : Lx (c :: r) ((3, [c], 0) :: ts) := by
  have h1 : ∀ c ∈ ([40, 41, 123, 125, 91, 93, 44, 59, 58, 126] : Str), isLet c.toNat = false ∧ isDig c.toNat = false ∧ isBl c.toNat = false ∧ (c.toNat : Int) ≠ 47 := by decide
  obtain ⟨a1, a2, a3, a4⟩ := h1 c hc
  have hs : signOf ([c] ++ r) = [c] := by
    simp only [List.mem_cons, List.not_mem_nil, or_false] at hc
    rcases hc with rfl | rfl | rfl | rfl | rfl | rfl | rfl | rfl | rfl | rfl <;> simp [signOf, g_lex_signs, List.find?]
  exact .tok rfl a3 (no_rem a4) (Nx_sign (t := []) a1 a2 hs) h
/-- a sign with a blank behind it -/
theorem Lx.sb {t r : Str} {ts : List AT} (ht : t ∈ g_lex_signs) (h : Lx r ts) : Lx (t ++ 32 :: r) ((3, t, 0) :: ts) := by
  simp only [g_lex_signs, List.mem_cons, List.not_mem_nil, or_false] at ht
  rcases ht with rfl | rfl | rfl | rfl | rfl | rfl | rfl | rfl | rfl | rfl | rfl | rfl | rfl | rfl | rfl | rfl | rfl | rfl | rfl | rfl | rfl | rfl | rfl | rfl | rfl | rfl <;>
    exact .tok rfl (by decide) (by simp) (Nx_sign (by decide) (by decide) (by simp [signOf, g_lex_signs, List.find?])) h.sp
theorem Lx.minus {c : UInt8} {r : Str} {ts : List AT} (hc : c = 40 ∨ lod c = true) (h : Lx (c :: r) ts) : Lx (45 :: c :: r) ((3, [45], 0) :: ts) := by
  have hne : c ≠ 62 := by
    rintro rfl
    rcases hc with hc | hc
    · cases hc
    · revert hc; decide
  exact .tok (t := [45]) rfl (by decide) (by simp) (Nx_sign (t := []) (by decide) (by decide) (by simp [signOf, g_lex_signs, List.find?, hne])) h
/-! tokens told by their kinds and texts -/
theorem absT_sign {t : Tok} {s : Str} {u : Int} (h : absT t = (3, s, u)) : isT t s := by
  injection h with h1 h2
  injection h2 with h2 h3
  exact ⟨h2, .inl h1⟩
theorem absT_word {t : Tok} {s : Str} {u : Int} (h : absT t = (1, s, u)) (hw : isWord s = true) : isT t s := by
  injection h with h1 h2
  injection h2 with h2 h3
  exact ⟨h2, .inr ⟨h1, hw⟩⟩
theorem absT_name {t : Tok} {s : Str} {u : Int} (h : absT t = (1, s, u)) (hw : isWord s = false) : isN t ∧ t.Text_ = s := by
  injection h with h1 h2
  injection h2 with h2 h3
  exact ⟨⟨h1, by rw [h2]; exact hw⟩, h2⟩
theorem absT_num {t : Tok} {s : Str} {u : Int} (h : absT t = (2, s, u)) : t.Kind_ = 2 ∧ t.Num_ = u := by
  injection h with h1 h2
  injection h2 with h2 h3
  exact ⟨h1, h3⟩
theorem map_cons_inv {w : List Tok} {a : AT} {l : List AT} (h : w.map absT = a :: l) : ∃ t w', w = t :: w' ∧ absT t = a ∧ w'.map absT = l := by
  cases w with
  | nil => cases h
  | cons t w => injection h with h1 h2; exact ⟨t, w, rfl, h1, h2⟩
theorem map_app_inv {w : List Tok} {a l : List AT} (h : w.map absT = a ++ l) : ∃ w1 w2, w = w1 ++ w2 ∧ w1.map absT = a ∧ w2.map absT = l := by
  obtain ⟨w1, w2, h1, h2, h3⟩ := List.map_eq_append_iff.1 h
  exact ⟨w1, w2, h1, h2, h3⟩
/-- no sign between operands -/
def noSign (ts : List Tok) : Prop := ∀ l, l < 7 → ∀ s ∈ levP (l : Nat), s ≠ [] → ¬ hdT ts s
theorem hdT_head {t : Tok} {ts : List Tok} {s : Str} (h : hdT (t :: ts) s) : isT t s := by
  obtain ⟨u, r, e, h⟩ := h; cases e; exact h
theorem noSign_of {t : Tok} {s : Str} {ts : List Tok} (h : isT t s) (hs : ((List.range 7).all fun l => (levP l).all fun y => decide (y ≠ s)) = true) : noSign (t :: ts) := by
  intro l hl y hy _ hd
  have h1 := List.all_eq_true.1 hs l (List.mem_range.2 hl)
  have h2 := List.all_eq_true.1 h1 y hy
  simp only [decide_eq_true_eq] at h2
  exact h2 ((hdT_head hd).1.symm.trans h.1)
theorem DE.lift {D d : Int} {ts us : List Tok} {x : Nd} (h : DE D .op d ts [x] us) (hf : noSign us) : ∀ j : Nat, j ≤ 7 → DE D (.lev (7 - j)) d ts [x] us := by
  intro j
  induction j with
  | zero => intro _; exact .last h
  | succ j ih =>
    intro hj
    have := ih (by omega)
    rw [show 7 - j = 7 - (j + 1) + 1 by omega] at this
    exact .lev (by omega) this (.stop (by omega) (hf _ (by omega)))
theorem DE.lift0 {D d : Int} {ts us : List Tok} {x : Nd} (h : DE D .op d ts [x] us) (hf : noSign us) : DE D (.lev 0) d ts [x] us := h.lift hf 7 (Nat.le_refl _)
end Go.Proofs.YtolhahlnccekcaaDoor.Abs
