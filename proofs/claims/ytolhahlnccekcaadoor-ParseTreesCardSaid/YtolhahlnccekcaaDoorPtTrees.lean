/-
  ParseTrees: the flat tree, the count, the law.
-/
import Derived.Test.YtolhahlnccekcaaDoorPtPr10
namespace Go.Proofs.YtolhahlnccekcaaDoor.Abs
open Go.RowKit
set_option linter.unusedVariables false
set_option linter.unusedSimpArgs false
theorem sz_mem {l : List T_parse_Node} {k : T_parse_Node} (h : k ∈ l) : sz k ≤ szL l := by
  obtain ⟨a, b, rfl⟩ := List.append_of_mem h
  rw [szL_app, szL_cons]
  have h1 : 0 ≤ szL a := by unfold szL; omega
  have h2 : 0 ≤ szL b := by unfold szL; omega
  omega
theorem flat_l1 {f : T_parse_Node → Int → Option (List T_remontoireref10_N)} {x : T_parse_Node} {d : Int} (hf : ∀ k ∈ x.List_, f k (IntKind.i64.wrap (d + 1)) = some (flatN k)) (hl : x.List_.length ≤ 1073741824) :
    ∀ (c v : Nat) (acc : List T_remontoireref10_N), x.List_.length < v + c → v ≤ x.List_.length → acc.length + szL (x.List_.drop v) ≤ 1073741824 → remontoirelaw10_flat_l1 f x d c acc v = some (acc ++ flatL (x.List_.drop v)) := by
  intro c
  induction c with
  | zero => intro v acc h1 h2; omega
  | succ c ih =>
    intro v acc h1 h2 h3
    unfold remontoirelaw10_flat_l1
    by_cases h4 : v < x.List_.length
    · have hd := List.drop_eq_getElem_cons h4
      have hi : idxL x.List_ v = some x.List_[v] := by
        unfold idxL
        rw [if_pos (by omega), Int.toNat_natCast, List.getElem?_eq_getElem h4]
      have hz : (flatN x.List_[v]).length = sz x.List_[v] := rfl
      rw [hd, szL_cons] at h3
      have h5 : 0 ≤ szL (x.List_.drop (v + 1)) := by unfold szL; omega
      rw [if_pos (by simp only [decide_eq_true_eq]; omega), hi, Option.bind_some, hf _ (List.getElem_mem h4), Option.bind_some, need_of (by omega), wrap64 (n := (v : Int) + 1) (by omega) (by omega)]
      rw [show ((v : Int) + 1) = ((v + 1 : Nat) : Int) by omega, ih (v + 1) _ (by omega) (by omega) (by rw [List.length_append]; omega), hd, flatL_cons, List.append_assoc]
    · rw [if_neg (by simp only [decide_eq_true_eq]; omega), List.drop_eq_nil_of_le (by omega), flatL_nil, List.append_nil]
theorem flat_eq : ∀ (n : Nat) (x : T_parse_Node) (d : Int), sz x < n → 0 ≤ d → d + sz x ≤ 20000 → remontoirelaw10_flat n x d = some (flatN x) := by
  intro n
  induction n with
  | zero => intro x d h; have := sz_pos x; omega
  | succ n ih =>
    intro x d h h0 hd
    show remontoirelaw10_flat_b (remontoirelaw10_flat n) n x d = _
    unfold remontoirelaw10_flat_b
    have h1 := sz_eq x
    have h2 := szL_ge x.List_
    rw [if_neg (by simp only [decide_eq_true_eq]; omega)]
    have h3 := flat_l1 (f := remontoirelaw10_flat n) (x := x) (d := d) (fun k hk => by
      have := sz_mem hk
      have := sz_pos k
      rw [wrap64 (by omega) (by omega)]
      exact ih k (d + 1) (by omega) (by omega) (by omega)) (by omega) n 0 [(T_remontoireref10_N.mk x.Kind_ x.At_ x.Text_ x.Num_ (x.List_.length : Int))] (by omega) (by omega) (by simp only [List.length_singleton, List.drop_zero]; omega)
    rw [show ((0 : Nat) : Int) = 0 from rfl] at h3
    rw [h3, Option.bind_some, List.drop_zero, flatN_eq]; rfl
theorem Count_l1 {f : T_parse_Node → Option Int} {x : T_parse_Node} (hf : ∀ k ∈ x.List_, f k = some (sz k)) (hl : x.List_.length ≤ 1073741824) :
    ∀ (c v : Nat) (acc : Int), x.List_.length < v + c → v ≤ x.List_.length → 0 ≤ acc → acc + szL (x.List_.drop v) ≤ 1073741824 → parse_Count_l1 f x c acc v = some (acc + szL (x.List_.drop v)) := by
  intro c
  induction c with
  | zero => intro v acc h1 h2; omega
  | succ c ih =>
    intro v acc h1 h2 h0 h3
    unfold parse_Count_l1
    by_cases h4 : v < x.List_.length
    · have hd := List.drop_eq_getElem_cons h4
      have hi : idxL x.List_ v = some x.List_[v] := by
        unfold idxL
        rw [if_pos (by omega), Int.toNat_natCast, List.getElem?_eq_getElem h4]
      rw [hd, szL_cons] at h3
      have h5 : 0 ≤ szL (x.List_.drop (v + 1)) := by unfold szL; omega
      have h6 := sz_pos x.List_[v]
      rw [if_pos (by simp only [decide_eq_true_eq]; omega), hi, Option.bind_some, hf _ (List.getElem_mem h4), Option.bind_some, wrap64 (n := (v : Int) + 1) (by omega) (by omega), wrap64 (by omega) (by omega)]
      rw [show ((v : Int) + 1) = ((v + 1 : Nat) : Int) by omega, ih (v + 1) _ (by omega) (by omega) (by omega) (by omega), hd, szL_cons, Int.add_assoc]
    · rw [if_neg (by simp only [decide_eq_true_eq]; omega), List.drop_eq_nil_of_le (by omega), szL_nil, Int.add_zero]
theorem Count_eq : ∀ (n : Nat) (x : T_parse_Node), sz x < n → sz x ≤ 1000000 → parse_Count n x = some (sz x) := by
  intro n
  induction n with
  | zero => intro x h; have := sz_pos x; omega
  | succ n ih =>
    intro x h hb
    show parse_Count_b (parse_Count n) n x = _
    unfold parse_Count_b
    have h1 := sz_eq x
    have h2 := szL_ge x.List_
    have h3 := Count_l1 (f := parse_Count n) (x := x) (fun k hk => ih k (by have := sz_mem hk; omega) (by have := sz_mem hk; omega)) (by omega) n 0 1 (by omega) (by omega) (by omega) (by simp only [List.drop_zero]; omega)
    rw [show ((0 : Nat) : Int) = 0 from rfl] at h3
    rw [h3, Option.bind_some, List.drop_zero, h1]
theorem Trees_l1 (l : List T_remontoireref10_N) (e w : Int) (hl : l.length ≤ 1073741824) : ∀ (c v : Nat), l.length < v + c → v ≤ l.length → remontoirelaw10_ParseTrees_l1 l (l, e, w) c v = some (.inl ()) := by
  intro c
  induction c with
  | zero =>
    intro v h1 h2
    omega
  | succ c ih =>
    intro v h1 h2
    unfold remontoirelaw10_ParseTrees_l1
    by_cases h4 : v < l.length
    · have hi : idxL l v = some l[v] := by
        unfold idxL
        rw [if_pos (by omega), Int.toNat_natCast, List.getElem?_eq_getElem h4]
      rw [if_pos (by simp only [decide_eq_true_eq]; omega), hi, Option.bind_some, Option.bind_some, wrap64 (n := (v : Int) + 1) (by omega) (by omega), if_neg (by simp)]
      exact ih (v + 1) (by omega) (by omega)
    · rw [if_neg (by simp only [decide_eq_true_eq]; omega)]
theorem anchor_true : remontoirelaw10_anchor 700000 = some true := by kernel_rfl
theorem trees_true (s : Str) : remontoirelaw10_ParseTrees 700000 s = some true := by
  unfold remontoirelaw10_ParseTrees
  rw [anchor_true, Option.bind_some, if_neg (by decide)]
  by_cases hs : (40000 : Int) < s.length
  · rw [if_pos (by simpa using hs)]
  rw [if_neg (by simpa using hs)]
  obtain ⟨r, e, h1, h2⟩ := pParse (n := 700000) (s := s) (by omega)
  rw [e, Option.bind_some]
  by_cases he : r.2.1 = 0
  · obtain ⟨h3, h4, h5⟩ := h1 he
    have h6 := sz_pos r.1
    have h7 : (flatN r.1).length = sz r.1 := rfl
    rw [h5, Option.bind_some, he, h3]
    rw [if_neg (by simp), Option.bind_some, if_neg (by simp), if_neg (by simp), flat_eq 700000 r.1 0 (by omega) (by omega) (by omega), Option.bind_some, if_neg (by simp), Count_eq 700000 r.1 (by omega) (by omega), Option.bind_some, Option.bind_some, if_neg (by simp only [h7]; simp)]
    have h8 := Trees_l1 (flatN r.1) 0 0 (by omega) 700000 0 (by omega) (by omega)
    rw [show ((0 : Nat) : Int) = 0 from rfl] at h8
    rw [h8]; rfl
  · obtain ⟨h3, h4⟩ := h2 he
    rw [h4, Option.bind_some, h3]
    rw [if_neg (by simp), Option.bind_some, if_neg (by simp), if_pos (by simpa using he)]
    rfl
theorem trees_ex : ∃ n, ∀ s : Str, remontoirelaw10_ParseTrees n s = some true := ⟨700000, trees_true⟩
end Go.Proofs.YtolhahlnccekcaaDoor.Abs
