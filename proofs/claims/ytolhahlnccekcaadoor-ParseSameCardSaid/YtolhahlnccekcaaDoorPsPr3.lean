/-
  The parser's plain steps, told exactly; the document's steps are the same.
-/
import Derived.Test.YtolhahlnccekcaaDoorPsPar1
import Derived.Test.YtolhahlnccekcaaDoorPsTr2
namespace Go.Proofs.YtolhahlnccekcaaDoor.Abs
open Go.RowKit
set_option linter.unusedVariables false
set_option linter.unusedSimpArgs false
def tokP (p : T_parse_parser) : T_lex_Token := (p.l_[p.at_.toNat]?).getD ⟨0, 0, [], 0⟩
def failP (p : T_parse_parser) (e : Int) : T_parse_parser := if p.e_ = 0 then { p with e_ := e, where_ := (tokP p).At_ } else p
def cntP (p : T_parse_parser) : T_parse_parser := { p with nodes_ := (IntKind.i64.wrap (p.nodes_ + (1 : Int))) }
def nodeP (p : T_parse_parser) : T_parse_parser := if 16384 < (cntP p).nodes_ then failP (cntP p) 136 else cntP p
def isB (p : T_parse_parser) (s : Str) : Bool := p.e_ == 0 && (decide ((tokP p).Text_ = s) && ((tokP p).Kind_ == 3 || ((tokP p).Kind_ == 1 && isWord s)))
def advP (p : T_parse_parser) : T_parse_parser := { p with at_ := (IntKind.i64.wrap (p.at_ + (1 : Int))) }
def takeP (p : T_parse_parser) (s : Str) : T_parse_parser := if isB p s = true then advP p else p
def needP (p : T_parse_parser) (s : Str) : T_parse_parser := if isB p s = true then advP p else failP p 110
def nameB (p : T_parse_parser) : Bool := p.e_ != 0 || ((tokP p).Kind_ != 1 || isWord (tokP p).Text_)
def nameP (p : T_parse_parser) : Str × T_parse_parser := if nameB p = true then ([], failP p 110) else ((tokP p).Text_, advP p)
def numB (p : T_parse_parser) : Bool := p.e_ != 0 || (tokP p).Kind_ != 2
def numP (p : T_parse_parser) : Int × T_parse_parser := if numB p = true then (0, failP p 110) else ((tokP p).Num_, advP p)
def deepP (p : T_parse_parser) (a : Int) : T_parse_parser := if 64 < a then failP p 111 else p
section
variable {p : T_parse_parser} {n : Nat}
theorem token_eq (h : PI p) : p_parse_parser_token p = some (tokP p) := by
  obtain ⟨t, e, _⟩ := token_tot h
  rw [e]
  unfold p_parse_parser_token at e
  obtain ⟨t', e1, e2⟩ := bind_some e
  cases e2
  obtain ⟨_, _, e3⟩ := idxL_some e1
  unfold tokP
  rw [e3]; rfl
theorem fail_eq (h : PI p) {e : Int} : p_parse_parser_fail p e = some (failP p e) := by
  unfold p_parse_parser_fail failP
  by_cases h1 : p.e_ = 0
  · rw [if_pos (by simpa using h1), if_pos h1, token_eq h]; rfl
  · rw [if_neg (by simpa using h1), if_neg h1]
theorem PI.cnt (h : PI p) : PI (cntP p) := ⟨h.lo, h.hi, h.big, h.toks⟩
theorem tok_cnt : tokP (cntP p) = tokP p := rfl
theorem tok_fail {e : Int} : tokP (failP p e) = tokP p := by unfold failP; split <;> rfl
theorem fail_gd (h : PI p) {e : Int} (he : e ≠ 0) : Gd p (failP p e) ∧ (failP p e).e_ ≠ 0 := (fail_tot h he).get (fail_eq h)
theorem node_eq (h : PI p) {k : Int} : p_parse_parser_node p k = some (⟨k, (tokP p).At_, [], 0, []⟩, nodeP p) := by
  have h2 := h.cnt
  unfold p_parse_parser_node nodeP
  by_cases h1 : 16384 < (cntP p).nodes_
  · have := (fail_gd h2 (e := 136) (by decide)).1
    rw [if_pos (by simpa [cntP] using h1), if_pos h1, show ({ p with nodes_ := (IntKind.i64.wrap (p.nodes_ + (1 : Int))) } : T_parse_parser) = cntP p from rfl, fail_eq h2, Option.bind_some, token_eq this.inv, Option.bind_some, tok_fail, tok_cnt]
  · rw [if_neg (by simpa [cntP] using h1), if_neg h1, show ({ p with nodes_ := (IntKind.i64.wrap (p.nodes_ + (1 : Int))) } : T_parse_parser) = cntP p from rfl, token_eq h2, Option.bind_some, tok_cnt]
theorem is_eq (h : PI p) (hn : 13 < n) {s : Str} : p_parse_parser_is n p s = some (isB p s) := by
  unfold p_parse_parser_is isB
  rw [token_eq h, Option.bind_some, Word_eq hn]
  cases p.e_ == 0 <;> cases decide ((tokP p).Text_ = s) <;> cases (tokP p).Kind_ == 3 <;> cases (tokP p).Kind_ == 1 <;> rfl
theorem take_eq (h : PI p) (hn : 13 < n) {s : Str} : p_parse_parser_take n p s = some (isB p s, takeP p s) := by
  unfold p_parse_parser_take takeP
  rw [is_eq h hn, Option.bind_some]
  cases isB p s <;> rfl
theorem need_eq (h : PI p) (hn : 13 < n) {s : Str} : p_parse_parser_need n p s = some (needP p s) := by
  unfold p_parse_parser_need needP
  rw [take_eq h hn, Option.bind_some]
  unfold takeP
  cases isB p s
  · simp only [Bool.not_false, if_true, Bool.false_eq_true, if_false]
    rw [fail_eq h]; rfl
  · rfl
theorem name_eq (h : PI p) (hn : 13 < n) : p_parse_parser_name n p = some (nameP p) := by
  unfold p_parse_parser_name nameP nameB
  rw [token_eq h, Option.bind_some, Word_eq hn, fail_eq h]
  cases p.e_ != 0 <;> cases (tokP p).Kind_ != 1 <;> cases isWord (tokP p).Text_ <;> rfl
theorem number_eq' (h : PI p) : p_parse_parser_number p = some (numP p) := by
  unfold p_parse_parser_number numP numB
  rw [token_eq h, Option.bind_some, fail_eq h]
  cases p.e_ != 0 <;> cases (tokP p).Kind_ != 2 <;> rfl
theorem deep_eq (h : PI p) {a : Int} : p_parse_parser_deep p a = some (deepP p a) := by
  unfold p_parse_parser_deep deepP
  rw [fail_eq h]
  by_cases h1 : 64 < a
  · rw [if_pos (by simpa using h1), if_pos h1]; rfl
  · rw [if_neg (by simpa using h1), if_neg h1]
theorem node_gd (h : PI p) : Gd p (nodeP p) := ((node_tot (k := 0) h).get (node_eq h)).1
theorem take_gd (h : PI p) {s : Str} : Gd p (takeP p s) ∧ (isB p s = true → p.e_ = 0 ∧ GA p (takeP p s) ∧ (takeP p s).e_ = 0) ∧ (isB p s = false → takeP p s = p) := (take_tot (n := 14) h (by decide)).get (take_eq h (by decide))
theorem need_ga (h : PI p) {s : Str} : GA p (needP p s) := (need_tot (n := 14) h (by decide)).get (need_eq h (by decide))
theorem name_ga (h : PI p) : GA p (nameP p).2 := (name_tot (n := 14) h (by decide)).get (name_eq h (by decide))
theorem num_ga (h : PI p) : GA p (numP p).2 := (number_tot h).get (number_eq' h)
theorem deep_gd (h : PI p) {a : Int} : Gd p (deepP p a) := (deep_tot h).get (deep_eq h)
/-! nodes -/
theorem take_nd {s : Str} : (takeP p s).nodes_ = p.nodes_ := by unfold takeP; split <;> rfl
/-! the document's -/
def conv (p : T_parse_parser) : T_remontoireref10_P := ⟨p.l_.map cT, p.at_, p.nodes_, p.e_, p.where_⟩
end
section
variable {p : T_parse_parser} {n : Nat}
def sizeP (p : T_parse_parser) : Int × T_parse_parser := ((numP (needP p [91])).1, needP (numP (needP p [91])).2 [93])
theorem size_eq (h : PI p) (hn : 13 < n) : p_parse_parser_size n p = some (sizeP p) := by
  unfold p_parse_parser_size sizeP
  rw [need_eq h hn, Option.bind_some, number_eq' (need_ga h).inv, Option.bind_some, need_eq (num_ga (need_ga h).inv).inv hn]; rfl
theorem size_ga (h : PI p) : GA p (sizeP p).2 := (need_ga h).ga ((num_ga (need_ga h).inv).ga (need_ga (num_ga (need_ga h).inv).inv))
/-! signs -/
def signP (p : T_parse_parser) (l : List Str) : Str := (l.find? fun y => decide (y ≠ []) && isB p y).getD []
theorem sign_l1_eq (h : PI p) (hn : 13 < n) (x : List Str) (hx : x.length = 3) : ∀ (c : Nat) (v : Nat), 3 < v + c → v ≤ 3 → (∀ y ∈ x.take v, (decide (y ≠ []) && isB p y) = false) →
    Tot (p_parse_parser_sign_l1 n x p c v) fun r => match r with | .inl _ => x.find? (fun y => decide (y ≠ []) && isB p y) = none | .inr t => x.find? (fun y => decide (y ≠ []) && isB p y) = some t := by
  intro c
  induction c with
  | zero => intro v h1 h2; omega
  | succ c ih =>
    intro v h1 h2 h3
    unfold p_parse_parser_sign_l1
    refine Tot.iteb (fun h4 => ?_) fun h4 => ?_
    · simp only [decide_eq_true_eq] at h4
      refine Tot.bind' (Tot.idx (by omega) (by omega) fun z hz => ?_)
      rw [Int.toNat_natCast] at hz
      rw [is_eq h hn, Option.bind_some]
      have hy : (if (decide (z ≠ ([] : Str))) = true then some (isB p z) else some false) = some (decide (z ≠ []) && isB p z) := by
        cases decide (z ≠ ([] : Str)) <;> rfl
      rw [hy, Option.bind_some]
      refine Tot.iteb (fun h5 => .some (find_at h3 hz h5)) fun h5 => ?_
      rw [wrap64 (by omega) (by omega)]
      refine ih (v + 1) (by omega) (by omega) ?_
      rw [take_step' hz]
      intro y hy
      rcases List.mem_append.1 hy with hy | hy
      · exact h3 y hy
      · rw [List.mem_singleton.1 hy]; exact h5
    · refine .some ?_
      simp only [decide_eq_false_iff_not] at h4
      rw [List.take_of_length_le (by omega)] at h3
      exact List.find?_eq_none.2 fun y hy => by simpa using h3 y hy
def levP (a : Int) : List Str := (idxL g_parse_levels a).getD []
theorem sign_eqP (h : PI p) (hn : 13 < n) {a : Int} (h0 : 0 ≤ a) (h1 : a < 7) : p_parse_parser_sign n p a = some (signP p (levP a)) := by
  unfold p_parse_parser_sign signP levP
  have hl : g_parse_levels.length = 7 := rfl
  obtain ⟨x, e, hx⟩ : Tot (idxL g_parse_levels a) fun x => x.length = 3 := Tot.idx h0 (by omega) fun x hx => by
    have : (g_parse_levels.all fun y => y.length == 3) = true := by decide
    simpa using List.all_eq_true.1 this x (List.mem_of_getElem? hx)
  rw [e, Option.bind_some]
  obtain ⟨r, e2, hr⟩ := sign_l1_eq h hn x hx n 0 (by omega) (by omega) (by simp)
  rw [show ((0 : Nat) : Int) = 0 from rfl] at e2
  rw [e2, Option.bind_some]
  simp only [Option.getD_some]
  cases r with
  | inl _ => rw [hr]; rfl
  | inr t => rw [hr]; rfl
theorem signP_e {l : List Str} (hs : signP p l ≠ []) : p.e_ = 0 := by
  unfold signP at hs
  cases h : l.find? (fun y => decide (y ≠ []) && isB p y) with
  | none => rw [h] at hs; exact absurd rfl hs
  | some y =>
    have := List.find?_some h
    simp only [Bool.and_eq_true] at this
    have := this.2
    unfold isB at this
    simp only [Bool.and_eq_true, beq_iff_eq] at this
    exact this.1
end
end Go.Proofs.YtolhahlnccekcaaDoor.Abs
