/-
  ParseJoins: the law.
-/
import Derived.Test.YtolhahlnccekcaaDoorPjJoi2
import Derived.Test.YtolhahlnccekcaaDoorPjDer8
import Derived.Test.YtolhahlnccekcaaDoorPjSame10
namespace Go.Proofs.YtolhahlnccekcaaDoor.Abs
open Go.RowKit
set_option linter.unusedVariables false
set_option linter.unusedSimpArgs false
theorem anchor_joins : remontoirelaw10_anchor 100000 = some true := by kernel_rfl
theorem parse_der {n : Nat} {s : Str} {r : T_parse_Node × Int × Int} (hn : 16 * s.length + 200 < n) (h : parse_Parse n s = some r) (he : r.2.1 = 0) : ∃ l w fs z t us, lex_Tokens n s = some (l, 0, w) ∧ DFs 64 l fs [z] ∧ z.Kind_ = 4 ∧ l = t :: us ∧ r.1 = ⟨1, t.At_, [], 0, fs⟩ ∧ 1 + szL fs ≤ 16384 := by
  obtain ⟨l, w, fs, z, h1, h2, h3, t, us, h4, h5⟩ := (sParse hn).get h he
  refine ⟨l, w, fs, z, t, us, h1, h2, h3, h4, h5, ?_⟩
  rcases (cParse (D := 64) (by decide) (by decide) hn h1 h2 h3).get h with ⟨_, _, _, _, h6⟩ | ⟨h6, _⟩ | ⟨_, h6⟩
  · exact h6
  · rw [he] at h6; cases h6
  · omega
theorem joins_true (a b : Str) : remontoirelaw10_ParseJoins 100000 a b = some true := by
  unfold remontoirelaw10_ParseJoins
  rw [anchor_joins, Option.bind_some, if_neg (by decide)]
  by_cases ha : (2000 : Int) < a.length
  · rw [if_pos (by simpa using ha), Option.bind_some, if_pos rfl]
  rw [if_neg (by simpa using ha), Option.bind_some]
  by_cases hb : (2000 : Int) < b.length
  · rw [if_pos (by simpa using hb)]
  rw [if_neg (by simpa using hb)]
  have hs : ((([] : Str) ++ a) ++ ([10] : Str)) ++ b = a ++ 10 :: b := by simp
  have hl : (a ++ 10 :: b).length = a.length + b.length + 1 := by rw [List.length_append, List.length_cons]; omega
  obtain ⟨ra, ea, _⟩ := Parse_tot (n := 100000) (s := a) (by omega)
  obtain ⟨rb, eb, _⟩ := Parse_tot (n := 100000) (s := b) (by omega)
  obtain ⟨rz, ez, _⟩ := Parse_tot (n := 100000) (s := a ++ 10 :: b) (by omega)
  rw [hs, ea, Option.bind_some, eb, Option.bind_some, need_of (by simp only [List.length_nil]; omega), need_of (by simp only [List.nil_append, List.length_singleton]; omega), need_of (by simp only [List.nil_append, List.length_append, List.length_singleton]; omega), ez, Option.bind_some]
  by_cases h1 : ra.2.1 = 0
  rotate_left
  · rw [if_pos (by simpa using h1), Option.bind_some, if_pos rfl]
  rw [if_neg (by simpa using h1), Option.bind_some]
  by_cases h2 : rb.2.1 = 0
  rotate_left
  · rw [if_pos (by simpa using h2)]
  rw [if_neg (by simpa using h2)]
  obtain ⟨la, wa, fa, za, ta, ua, a1, a2, a3, a4, a5, a6⟩ := parse_der (by omega) ea h1
  obtain ⟨lb, wb, fb, zb, tb, ub, b1, b2, b3, b4, b5, b6⟩ := parse_der (by omega) eb h2
  obtain ⟨xa, xb, e1, e2, e3⟩ := Tokens_join (by omega) (by omega) a1 b1
  obtain ⟨w1, q1, q2⟩ := a2.pre
  have hw : w1 = xa := by
    rw [e1] at q1
    exact (List.append_inj' q1.symm (by simp)).1
  have b2' := b2.sh ((a.length : Int) + 1)
  have hd := (q2 (lb.map (shT ((a.length : Int) + 1)))).app b2'
  rw [hw] at hd
  have hsz : szL (fb.map (shN ((a.length : Int) + 1))) = szL fb := szL_map fun x _ => sz_sh _ x
  have hca : parse_Count 100000 ra.1 = some (1 + szL fa) := by
    have := szL_ge fa
    rw [a5, Count_eq 100000 _ (by rw [sz_mk]; omega) (by rw [sz_mk]; omega), sz_mk]
  have hcb : parse_Count 100000 rb.1 = some (1 + szL fb) := by
    have := szL_ge fb
    rw [b5, Count_eq 100000 _ (by rw [sz_mk]; omega) (by rw [sz_mk]; omega), sz_mk]
  have p1 := szL_ge fa
  have p2 := szL_ge fb
  rcases (cParse (D := 64) (by decide) (by decide) (by omega) e3 hd b3).get ez with ⟨t, us, _, h6, h7⟩ | ⟨h6, h7⟩ | ⟨_, h6⟩
  · rw [szL_app, hsz] at h7
    have hcz : parse_Count 100000 rz.1 = some (1 + (szL fa + szL fb)) := by
      rw [h6, Count_eq 100000 _ (by rw [sz_mk, szL_app, hsz]; omega) (by rw [sz_mk, szL_app, hsz]; omega), sz_mk, szL_app, hsz]
    obtain ⟨s, es, hse⟩ := Same_ok (n := 100000) (x := rz.1) (y := T_parse_Node.mk 1 0 [] 0 (ra.1.List_ ++ rb.1.List_)) (by rw [h6, sz_mk, szL_app, hsz]; omega) (by rw [h6, sz_mk, szL_app, hsz]; omega)
    have hst : s = true := hse.2 (by
      rw [h6, a5, b5, erN_mk, erN_mk]
      congr 1
      rw [List.map_append, List.map_append, List.map_map]
      congr 1
      exact List.map_congr_left fun x _ => erN_sh _ x)
    subst hst
    rw [if_neg (by rw [h6]; simp), need_of (by rw [a5]; simp only; omega), need_of (by rw [a5, b5]; simp only; omega), es, Option.bind_some, if_pos rfl, hcz, Option.bind_some, hca, Option.bind_some, hcb, Option.bind_some, wrap64 (n := 1 + szL fa + (1 + szL fb)) (by omega) (by omega), wrap64 (n := 1 + szL fa + (1 + szL fb) - 1) (by omega) (by omega), Option.bind_some]
    congr 1
    simp only [beq_iff_eq]; omega
  · rw [szL_app, hsz] at h7
    rw [if_pos (by rw [h6]; decide), if_pos (by rw [h6]; decide), hca, Option.bind_some, hcb, Option.bind_some, wrap64 (n := 1 + szL fa + (1 + szL fb)) (by omega) (by omega), Option.bind_some]
    congr 1
    simp only [decide_eq_true_eq]; omega
  · omega
theorem joins_ex : ∃ n, ∀ a b : Str, remontoirelaw10_ParseJoins n a b = some true := ⟨100000, joins_true⟩
end Go.Proofs.YtolhahlnccekcaaDoor.Abs
