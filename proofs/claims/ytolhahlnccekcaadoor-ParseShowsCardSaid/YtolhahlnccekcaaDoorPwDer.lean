/-
  Parses: what a parse without an error is, as derivations over lists of tokens.
-/
import Derived.Test.YtolhahlnccekcaaDoorPwTr1
namespace Go.Proofs.YtolhahlnccekcaaDoor.Abs
open Go.RowKit
set_option linter.unusedVariables false
abbrev Tok := T_lex_Token
abbrev Nd := T_parse_Node
def isT (t : Tok) (s : Str) : Prop := t.Text_ = s ∧ (t.Kind_ = 3 ∨ (t.Kind_ = 1 ∧ isWord s = true))
def hdT (l : List Tok) (s : Str) : Prop := ∃ t r, l = t :: r ∧ isT t s
def isN (t : Tok) : Prop := t.Kind_ = 1 ∧ isWord t.Text_ = false
inductive EK
  | op
  | lev (l : Nat)
  | tail (l : Nat) (x : Nd)
  | args
  | items
inductive DE (D : Int) : EK → Int → List Tok → List Nd → List Tok → Prop
  | paren {d t ts x u us} : d ≤ D → isT t [40] → DE D (.lev 0) (d + 1) ts [x] (u :: us) → isT u [41] → DE D .op d (t :: ts) [x] us
  | un {d t s ts x us} : d ≤ D → (s = [126] ∨ s = [45]) → isT t s → DE D .op (d + 1) ts [x] us → DE D .op d (t :: ts) [⟨18, t.At_, s, 0, [x]⟩] us
  | num {d t ts} : d ≤ D → t.Kind_ = 2 → DE D .op d (t :: ts) [⟨14, t.At_, [], t.Num_, []⟩] ts
  | ref {d t ts} : d ≤ D → isN t → ¬ hdT ts [40] → ¬ hdT ts [91] → DE D .op d (t :: ts) [⟨15, t.At_, t.Text_, 0, []⟩] ts
  | call {d t ts xs us} : d ≤ D → isN t → DE D .args d ts xs us → DE D .op d (t :: ts) [⟨17, t.At_, t.Text_, 0, xs⟩] us
  | index {d t u us x v vs} : d ≤ D → isN t → isT u [91] → DE D (.lev 0) (d + 1) us [x] (v :: vs) → isT v [93] → DE D .op d (t :: u :: us) [⟨16, t.At_, t.Text_, 0, [x]⟩] vs
  | last {d ts x us} : DE D .op d ts [x] us → DE D (.lev 7) d ts [x] us
  | lev {l d ts x us y vs} : l < 7 → DE D (.lev (l + 1)) d ts [x] us → DE D (.tail l x) d us [y] vs → DE D (.lev l) d ts [y] vs
  | stop {l : Nat} {x d us} : l < 7 → (∀ s ∈ levP l, s ≠ [] → ¬ hdT us s) → DE D (.tail l x) d us [x] us
  | one {s x d u us y vs} : s ∈ levP 3 → s ≠ [] → isT u s → DE D (.lev 4) d us [y] vs → DE D (.tail 3 x) d (u :: us) [⟨19, u.At_, s, 0, [x, y]⟩] vs
  | more {l : Nat} {s x d u us y vs z ws} : l < 7 → l ≠ 3 → s ∈ levP l → s ≠ [] → isT u s → DE D (.lev (l + 1)) d us [y] vs → DE D (.tail l ⟨19, u.At_, s, 0, [x, y]⟩) d vs [z] ws → DE D (.tail l x) d (u :: us) [z] ws
  | none {d t u us} : isT t [40] → isT u [41] → DE D .args d (t :: u :: us) [] us
  | args {d t ts xs us} : isT t [40] → ¬ hdT ts [41] → DE D .items d ts xs us → DE D .args d (t :: ts) xs us
  | item {d ts x u us} : DE D (.lev 0) (d + 1) ts [x] (u :: us) → isT u [41] → DE D .items d ts [x] us
  | items {d ts x u us xs vs} : DE D (.lev 0) (d + 1) ts [x] (u :: us) → isT u [44] → DE D .items d us xs vs → DE D .items d ts (x :: xs) vs
inductive SK
  | block
  | stmts
  | stmt
inductive DS (D : Int) : SK → Int → List Tok → List Nd → List Tok → Prop
  | block {d t ts xs u us} : d ≤ D → isT t [123] → DS D .stmts d ts xs (u :: us) → isT u [125] → DS D .block d (t :: ts) [⟨4, t.At_, [], 0, xs⟩] us
  | nil {d ts} : hdT ts [125] → DS D .stmts d ts [] ts
  | cons {d ts x us xs vs} : ¬ hdT ts [125] → DS D .stmt d ts [x] us → DS D .stmts d us xs vs → DS D .stmts d ts (x :: xs) vs
  | bind {d t k s u v vs x w ws} : (k = 5 ∧ s = [108, 101, 116] ∨ k = 6 ∧ s = [118, 97, 114]) → isT t s → isN u → isT v [61] → DE D (.lev 0) (d + 1) vs [x] (w :: ws) → isT w [59] → DS D .stmt d (t :: u :: v :: vs) [⟨k, t.At_, u.Text_, 0, [x]⟩] ws
  | arr {d t u v w z y ys} : isT t [97, 114, 114] → isN u → isT v [91] → w.Kind_ = 2 → isT z [93] → isT y [59] → DS D .stmt d (t :: u :: v :: w :: z :: y :: ys) [⟨7, t.At_, u.Text_, w.Num_, []⟩] ys
  | ret {d t ts x u us} : isT t [114, 101, 116, 117, 114, 110] → DE D (.lev 0) (d + 1) ts [x] (u :: us) → isT u [59] → DS D .stmt d (t :: ts) [⟨13, t.At_, [], 0, [x]⟩] us
  | choice {d t ts c us b vs} : isT t [105, 102] → DE D (.lev 0) (d + 1) ts [c] us → DS D .block (d + 1) us [b] vs → ¬ hdT vs [101, 108, 115, 101] → DS D .stmt d (t :: ts) [⟨11, t.At_, [], 0, [c, b]⟩] vs
  | choice2 {d t ts c us b v vs b' ws} : isT t [105, 102] → DE D (.lev 0) (d + 1) ts [c] us → DS D .block (d + 1) us [b] (v :: vs) → isT v [101, 108, 115, 101] → DS D .block (d + 1) vs [b'] ws → DS D .stmt d (t :: ts) [⟨11, t.At_, [], 0, [c, b, b']⟩] ws
  | loop {d t u v vs a w ws b xs k ys} : isT t [102, 111, 114] → isN u → isT v [105, 110] → DE D (.lev 0) (d + 1) vs [a] (w :: ws) → isT w [46, 46] → DE D (.lev 0) (d + 1) ws [b] xs → DS D .block (d + 1) xs [k] ys → DS D .stmt d (t :: u :: v :: vs) [⟨12, t.At_, u.Text_, 0, [a, b, k]⟩] ys
  | call {d t ts xs u us} : isN t → DE D .args (d + 1) ts xs (u :: us) → isT u [59] → DS D .stmt d (t :: ts) [⟨10, t.At_, t.Text_, 0, xs⟩] us
  | put {d t u us i v w ws x y ys} : isN t → isT u [91] → DE D (.lev 0) (d + 2) us [i] (v :: w :: ws) → isT v [93] → isT w [61] → DE D (.lev 0) (d + 1) ws [x] (y :: ys) → isT y [59] → DS D .stmt d (t :: u :: us) [⟨9, t.At_, t.Text_, 0, [i, x]⟩] ys
  | set {d t u us x v vs} : isN t → isT u [61] → DE D (.lev 0) (d + 1) us [x] (v :: vs) → isT v [59] → DS D .stmt d (t :: u :: us) [⟨8, t.At_, t.Text_, 0, [x]⟩] vs
/-- a parameter -/
inductive DPar : List Tok → Nd → List Tok → Prop
  | word {t u k s v vs} : isN t → isT u [58] → (k = 1 ∧ s = [112, 117, 98] ∨ k = 2 ∧ s = [117, 51, 50] ∨ k = 3 ∧ s = [117, 54, 52]) → isT v s → DPar (t :: u :: v :: vs) ⟨3, t.At_, t.Text_, k, []⟩ vs
  | arr {t u v w x xs} : isN t → isT u [58] → isT v [91] → w.Kind_ = 2 → isT x [93] → DPar (t :: u :: v :: w :: x :: xs) ⟨3, t.At_, t.Text_, 4, [⟨14, v.At_, [], w.Num_, []⟩]⟩ xs
inductive DPars : Bool → List Tok → List Nd → List Tok → Prop
  | none {t u us} : isT t [40] → isT u [41] → DPars true (t :: u :: us) [] us
  | args {t ts xs us} : isT t [40] → ¬ hdT ts [41] → DPars false ts xs us → DPars true (t :: ts) xs us
  | item {ts x u us} : DPar ts x (u :: us) → isT u [41] → DPars false ts [x] us
  | items {ts x u us xs vs} : DPar ts x (u :: us) → isT u [44] → DPars false us xs vs → DPars false ts (x :: xs) vs
/-- a result's type -/
inductive DRes : List Tok → Int → List Tok → Prop
  | none {ts} : ¬ hdT ts [45, 62] → DRes ts 0 ts
  | short {t u us} : isT t [45, 62] → isT u [117, 51, 50] → DRes (t :: u :: us) 2 us
  | long {t u us} : isT t [45, 62] → isT u [117, 54, 52] → DRes (t :: u :: us) 4 us
inductive DF (D : Int) : List Tok → Nd → List Tok → Prop
  | plain {t u us xs vs r ws b ys} : isT t [102, 110] → isN u → DPars true us xs vs → DRes vs r ws → DS D .block 1 ws [b] ys → DF D (t :: u :: us) ⟨2, t.At_, u.Text_, r, xs ++ [b]⟩ ys
  | exp {e t u us xs vs r ws b ys} : isT e [101, 120, 112, 111, 114, 116] → isT t [102, 110] → isN u → DPars true us xs vs → DRes vs r ws → DS D .block 1 ws [b] ys → DF D (e :: t :: u :: us) ⟨2, e.At_, u.Text_, r + 1, xs ++ [b]⟩ ys
inductive DFs (D : Int) : List Tok → List Nd → List Tok → Prop
  | nil {ts} : DFs D ts [] ts
  | cons {ts x us xs vs} : DF D ts x us → DFs D us xs vs → DFs D ts (x :: xs) vs
end Go.Proofs.YtolhahlnccekcaaDoor.Abs
namespace Go.Proofs.YtolhahlnccekcaaDoor.Abs
open Go.RowKit
set_option linter.unusedVariables false
set_option linter.unusedSimpArgs false
def rest (p : T_parse_parser) : List Tok := p.l_.drop p.at_.toNat
section
variable {p : T_parse_parser} {n : Nat} {s : Str}
theorem rest_cons (h : PI p) : rest p = tokP p :: p.l_.drop (p.at_.toNat + 1) := by
  have h1 := h.lo
  have h2 := h.hi
  have h3 : p.at_.toNat < p.l_.length := by omega
  unfold rest tokP
  rw [List.drop_eq_getElem_cons h3, List.getElem?_eq_getElem h3]; rfl
theorem adv_rest (h : PI p) : rest p = tokP p :: rest (advP p) := by
  have h1 := h.lo
  have h2 := h.hi
  have h3 := h.big
  rw [rest_cons h]
  show _ = _ :: p.l_.drop (IntKind.i64.wrap (p.at_ + 1)).toNat
  rw [wrap64 (by omega) (by omega), show (p.at_ + 1).toNat = p.at_.toNat + 1 by omega]
theorem isB_isT (hb : isB p s = true) : p.e_ = 0 ∧ isT (tokP p) s := by
  unfold isB at hb
  simp only [Bool.and_eq_true, Bool.or_eq_true, beq_iff_eq, decide_eq_true_eq] at hb
  exact ⟨hb.1, hb.2.1, hb.2.2⟩
theorem isB_of (he : p.e_ = 0) (ht : isT (tokP p) s) : isB p s = true := by
  unfold isB
  simp only [Bool.and_eq_true, Bool.or_eq_true, beq_iff_eq, decide_eq_true_eq]
  exact ⟨he, ht.1, ht.2⟩
theorem hdT_rest (h : PI p) (he : p.e_ = 0) : hdT (rest p) s ↔ isB p s = true := by
  constructor
  · rintro ⟨t, r, e, ht⟩
    rw [rest_cons h] at e
    cases e
    exact isB_of he ht
  · intro hb
    exact ⟨_, _, rest_cons h, (isB_isT hb).2⟩
theorem not_hdT (h : PI p) (he : p.e_ = 0) (hb : isB p s = false) : ¬ hdT (rest p) s := fun hd => by
  rw [(hdT_rest h he).1 hd] at hb; cases hb
theorem take_rest (h : PI p) (hb : isB p s = true) : rest p = tokP p :: rest (takeP p s) := by
  unfold takeP
  rw [if_pos hb]; exact adv_rest h
theorem fail_ne (p : T_parse_parser) {e : Int} (he : e ≠ 0) : (failP p e).e_ ≠ 0 := by
  unfold failP
  split
  · exact he
  · assumption
theorem need_ok (h : PI p) (he : (needP p s).e_ = 0) : p.e_ = 0 ∧ isT (tokP p) s ∧ rest p = tokP p :: rest (needP p s) := by
  unfold needP at he ⊢
  by_cases hb : isB p s = true
  · rw [if_pos hb]
    exact ⟨(isB_isT hb).1, (isB_isT hb).2, adv_rest h⟩
  · rw [if_neg hb] at he
    exact absurd he (fail_ne _ (by decide))
theorem name_ok (h : PI p) (he : (nameP p).2.e_ = 0) : p.e_ = 0 ∧ isN (tokP p) ∧ (nameP p).1 = (tokP p).Text_ ∧ rest p = tokP p :: rest (nameP p).2 := by
  unfold nameP at he ⊢
  by_cases hb : nameB p = true
  · rw [if_pos hb] at he
    exact absurd he (fail_ne _ (by decide))
  · rw [if_neg hb]
    unfold nameB at hb
    simp only [Bool.or_eq_true, not_or, bne_iff_ne, ne_eq, Decidable.not_not, Bool.not_eq_true] at hb
    exact ⟨hb.1, ⟨hb.2.1, hb.2.2⟩, rfl, adv_rest h⟩
theorem num_ok (h : PI p) (he : (numP p).2.e_ = 0) : p.e_ = 0 ∧ (tokP p).Kind_ = 2 ∧ (numP p).1 = (tokP p).Num_ ∧ rest p = tokP p :: rest (numP p).2 := by
  unfold numP at he ⊢
  by_cases hb : numB p = true
  · rw [if_pos hb] at he
    exact absurd he (fail_ne _ (by decide))
  · rw [if_neg hb]
    unfold numB at hb
    simp only [Bool.or_eq_true, not_or, bne_iff_ne, ne_eq, Decidable.not_not] at hb
    exact ⟨hb.1, hb.2, rfl, adv_rest h⟩
theorem size_ok (h : PI p) (he : (sizeP p).2.e_ = 0) : p.e_ = 0 ∧ ∃ v w, isT (tokP p) [91] ∧ v.Kind_ = 2 ∧ isT w [93] ∧ (sizeP p).1 = v.Num_ ∧ rest p = tokP p :: v :: w :: rest (sizeP p).2 := by
  unfold sizeP at he ⊢
  have g1 := need_ga h (s := [91])
  have g2 := num_ga g1.inv
  obtain ⟨a1, a2, a3⟩ := need_ok g2.inv he
  obtain ⟨b1, b2, b3, b4⟩ := num_ok g1.inv a1
  obtain ⟨c1, c2, c3⟩ := need_ok h b1
  exact ⟨c1, _, _, c2, b2, a2, b3, by rw [c3, b4, a3]⟩
theorem tok_node : tokP (nodeP p) = tokP p := by unfold nodeP; split; rw [tok_fail, tok_cnt]; rfl
theorem rest_fail {e : Int} : rest (failP p e) = rest p := by unfold failP; split <;> rfl
theorem rest_node : rest (nodeP p) = rest p := by unfold nodeP; split; rw [rest_fail]; rfl; rfl
theorem deep_ok {a : Int} (he : (deepP p a).e_ = 0) : p.e_ = 0 ∧ a ≤ 64 ∧ deepP p a = p := by
  unfold deepP at he ⊢
  by_cases h : 64 < a
  · rw [if_pos h] at he
    exact absurd he (fail_ne _ (by decide))
  · rw [if_neg h] at he ⊢
    exact ⟨he, by omega, rfl⟩
theorem sign_in {l : List Str} (hs : signP p l ≠ []) : signP p l ∈ l ∧ isB p (signP p l) = true := by
  unfold signP at hs ⊢
  cases h : l.find? (fun y => decide (y ≠ []) && isB p y) with
  | none => rw [h] at hs; exact absurd rfl hs
  | some y =>
    have h1 := List.find?_some h
    have h2 := List.mem_of_find?_eq_some h
    simp only [Bool.and_eq_true] at h1
    exact ⟨h2, h1.2⟩
theorem sign_no {l : List Str} (h : PI p) (he : p.e_ = 0) (hs : signP p l = []) : ∀ s ∈ l, s ≠ [] → ¬ hdT (rest p) s := by
  intro s h1 h2 h3
  have h4 := (hdT_rest h he).1 h3
  unfold signP at hs
  cases h5 : l.find? (fun y => decide (y ≠ []) && isB p y) with
  | none =>
    have := List.find?_eq_none.1 h5 s h1
    rw [h4] at this
    simp [h2] at this
  | some y =>
    rw [h5] at hs
    have h6 := List.find?_some h5
    simp only [Option.getD_some] at hs
    rw [hs] at h6
    simp at h6
end
def SdE (n : Nat) (k : Int) (K : EK) (f : T_parse_parser → Int → Option (T_parse_Node × T_parse_parser)) : Prop := ∀ p a, PI p → 0 ≤ a → a ≤ 1000 → Lf p + k ≤ n → Tot (f p a) fun r => GA p r.2 ∧ (r.2.e_ = 0 → DE 64 K a (rest p) [r.1] (rest r.2))
def SdL (n : Nat) (f : T_parse_parser → Int → Int → Option (T_parse_Node × T_parse_parser)) : Prop := ∀ p (l : Nat) b, PI p → l ≤ 7 → 0 ≤ b → b ≤ 1000 → Lf p + 29 - l ≤ n → Tot (f p l b) fun r => GA p r.2 ∧ (r.2.e_ = 0 → DE 64 (.lev l) b (rest p) [r.1] (rest r.2))
def SdA (n : Nat) (f : T_parse_parser → Int → Option ((List T_parse_Node) × T_parse_parser)) : Prop := ∀ p a, PI p → 0 ≤ a → a ≤ 900 → Lf p + 25 ≤ n → Tot (f p a) fun r => GA p r.2 ∧ (r.2.e_ = 0 → DE 64 .args a (rest p) r.1 (rest r.2))
section
variable {n : Nat} {p : T_parse_parser}
theorem slevel_l1 (hn : 13 < n) {f : T_parse_parser → Int → Int → Option (T_parse_Node × T_parse_parser)} {l : Nat} {a2 : Int} (h6 : l < 7) {k : Int} (hf : ∀ p, PI p → Lf p ≤ k → Tot (f p ((l : Int) + 1) a2) fun r => GA p r.2 ∧ (r.2.e_ = 0 → DE 64 (.lev (l + 1)) a2 (rest p) [r.1] (rest r.2))) :
    ∀ (c : Nat) (p : T_parse_parser) (x : T_parse_Node), PI p → Lf p ≤ k → 1 ≤ c → (signP p (levP l) ≠ [] → Lf p + 1 ≤ c) → Tot (p_parse_parser_level_l1 f n l a2 c (signP p (levP l)) p x) fun r => Gd p r.1 ∧ (r.1.e_ = 0 → DE 64 (.tail l x) a2 (rest p) [r.2] (rest r.1)) := by
  intro c
  induction c with
  | zero => intro p x h hl h1; omega
  | succ c ih =>
    intro p x h hl h1 h2
    unfold p_parse_parser_level_l1
    refine Tot.iteb (fun h4 => ?_) fun h4 => .some ⟨.refl h, fun he => .stop h6 (sign_no h he (by simpa using h4))⟩
    simp only [ne_eq, decide_eq_true_eq] at h4
    have h5 := h2 h4
    have h6' := h.lf
    have he := signP_e h4
    obtain ⟨i1, i2⟩ := sign_in h4
    have g1 := node_gd h
    have g2 := need_ga g1.inv (s := signP p (levP l))
    have l1 := g1.lf
    have l2 := g2.toGd.lf
    rw [node_eq h, Option.bind_some, need_eq g1.inv hn, Option.bind_some, wrap64 (n := (l : Int) + 1) (by omega) (by omega)]
    refine (hf _ g2.inv (by omega)).bind fun s ⟨g3, d3⟩ => ?_
    have g4 := g1.ga (g2.ga g3)
    have key : s.2.e_ = 0 → ∃ us, rest p = tokP p :: us ∧ isT (tokP p) (signP p (levP l)) ∧ DE 64 (.lev (l + 1)) a2 us [s.1] (rest s.2) := by
      intro hq
      have d4 := d3 hq
      obtain ⟨e1, e2, e3⟩ := need_ok g1.inv (g3.toGd.e0 hq)
      rw [tok_node] at e2 e3
      rw [rest_node] at e3
      exact ⟨_, e3, e2, d4⟩
    refine Tot.iteb (fun h7 => ?_) fun h7 => ?_
    · have h8 : l = 3 := by simp only [beq_iff_eq] at h7; omega
      subst h8
      refine .some ⟨g4.toGd, fun hq => ?_⟩
      obtain ⟨us, k1, k2, k3⟩ := key hq
      rw [k1]
      exact .one i1 h4 k2 k3
    · have h8 : l ≠ 3 := fun e => by subst e; simp at h7
      rw [sign_eqP g3.inv hn (by omega) (by omega), Option.bind_some]
      have l3 := g3.toGd.lf
      refine (ih s.2 _ g3.inv (by omega) (by omega) fun hne => ?_).mono fun r ⟨g5, d5⟩ => ⟨g4.toGd.trans g5, fun hq => ?_⟩
      · have l4 := g4.lf (signP_e hne)
        omega
      · obtain ⟨us, k1, k2, k3⟩ := key (g5.e0 hq)
        rw [k1]
        exact .more h6 h8 i1 h4 k2 k3 (d5 hq)
theorem slevel_b (hn : 13 < n) {fo : T_parse_parser → Int → Option (T_parse_Node × T_parse_parser)} {fl : T_parse_parser → Int → Int → Option (T_parse_Node × T_parse_parser)} (ho : SdE n 21 .op fo) (hl : SdL n fl) : SdL (n + 1) (p_parse_parser_level_b fo fl n) := by
  intro p l b h h7 hb0 hb1 hb
  unfold p_parse_parser_level_b
  refine Tot.iteb (fun h1 => ?_) fun h1 => ?_
  · have h8 : l = 7 := by simp only [beq_iff_eq] at h1; omega
    subst h8
    exact (ho p b h hb0 hb1 (by omega)).bind fun r ⟨g, d⟩ => .some ⟨g, fun hq => .last (d hq)⟩
  · have h8 : l ≠ 7 := fun e => by subst e; simp at h1
    rw [wrap64 (n := (l : Int) + 1) (by omega) (by omega)]
    refine (hl p (l + 1) b h (by omega) hb0 hb1 (by omega)).bind fun r ⟨g, d⟩ => ?_
    have l1 := g.toGd.lf
    have l2 := g.inv.lf
    rw [sign_eqP g.inv hn (by omega) (by omega), Option.bind_some]
    refine (slevel_l1 hn (by omega) (k := Lf r.2) (fun q hq hk => hl q (l + 1) b hq (by omega) hb0 hb1 (by omega)) n r.2 r.1 g.inv (Int.le_refl _) (by omega) (fun _ => by omega)).bind fun s ⟨g2, d2⟩ => .some ⟨g.gd g2, fun hq => .lev (by omega) (d (g2.e0 hq)) (d2 hq)⟩
theorem sexpr_b {fl : T_parse_parser → Int → Int → Option (T_parse_Node × T_parse_parser)} (hl : SdL n fl) : SdE (n + 1) 30 (.lev 0) (p_parse_parser_expr_b fl n) := by
  intro p a h h0 h1 hb
  unfold p_parse_parser_expr_b
  exact (hl p 0 a h (by omega) h0 h1 (by omega)).bind fun r g => .some g
theorem soperand_1_b {fe : T_parse_parser → Int → Option (T_parse_Node × T_parse_parser)} (he : SdE n 30 (.lev 0) fe) : ∀ p a, PI p → 0 ≤ a → a ≤ 999 → Lf p + 31 ≤ n + 1 → Tot (p_parse_parser_operand_1_b fe n p a) fun r => GA p r.2 ∧ (r.2.e_ = 0 → DE 64 (.lev 0) (a + 1) (rest p) [r.1] (rest r.2)) := by
  intro p a h h0 h1 hb
  unfold p_parse_parser_operand_1_b
  rw [wrap64 (n := a + 1) (by omega) (by omega)]
  exact (he p _ h (by omega) (by omega) (by omega)).bind fun r g => .some g
theorem slist_operand_l1 (hn : 13 < n) {fo : T_parse_parser → Int → Option (T_parse_Node × T_parse_parser)} {k : Int} {a : Int} (hf : ∀ p, PI p → Lf p ≤ k → Tot (fo p a) fun r => GA p r.2 ∧ (r.2.e_ = 0 → DE 64 (.lev 0) (a + 1) (rest p) [r.1] (rest r.2))) : ∀ (c : Nat) (l : List T_parse_Node) (p : T_parse_parser), PI p → (p.e_ = 0 → Lf p ≤ k) → (p.l_.length : Int) - p.at_ < c → (l.length : Int) ≤ p.at_ → Tot (p_parse_parser_list__operand_1_l1 fo n a c l p) fun r => Gd p r.2 ∧ (r.1.length : Int) ≤ r.2.at_ + 1 ∧ ∀ us, r.2.e_ = 0 → isT (tokP r.2) [41] → rest r.2 = tokP r.2 :: us → ∃ xs, r.1 = l ++ xs ∧ DE 64 .items a (rest p) xs us := by
  intro c
  induction c with
  | zero => intro l p h _ h1 h2; have := h.hi; omega
  | succ c ih =>
    intro l p h hk h1 h2
    have k1 := h.lo
    have k2 := h.hi
    have k3 := h.big
    unfold p_parse_parser_list__operand_1_l1
    refine Tot.iteb (fun h4 => ?_) fun h4 => .some ⟨.refl h, by simp only; omega, fun us he => by rw [show (l, p).2.e_ = p.e_ from rfl] at he; rw [he] at h4; cases h4⟩
    simp only [beq_iff_eq] at h4
    refine (hf p h (hk h4)).bind fun x ⟨g1, d1⟩ => ?_
    refine Tot.need (by simp only [List.length_singleton]; omega) ?_
    obtain ⟨g2, g3, g3'⟩ := take_gd g1.inv (s := [44])
    rw [take_eq g1.inv hn, Option.bind_some]
    have m1 := g1.at'
    have m2 := g2.at'
    refine Tot.iteb (fun h5 => .some ⟨g1.toGd.trans g2, by simp only [List.length_append, List.length_singleton]; omega, fun us he ht hr => ?_⟩) fun h5 => ?_
    · have h6 := g3' (by simpa using h5)
      simp only [h6] at he ht hr
      have d2 := d1 he
      rw [hr] at d2
      exact ⟨[x.1], rfl, .item d2 ht⟩
    · have h5' : isB x.2 [44] = true := by simpa using h5
      have g4 := g3 h5'
      have g5 := g1.ga g4.2.1
      have m3 := g1.adv g4.1
      have m4 := g1.toGd.trans g2
      have m5 := g5.toGd.lf
      have m6 := hk h4
      refine (ih _ _ g2.inv (fun _ => by omega) (by rw [m4.len]; omega) (by simp only [List.length_append, List.length_singleton]; omega)).mono fun s ⟨s1, s2, s3⟩ => ⟨g5.toGd.trans s1, s2, fun us he ht hr => ?_⟩
      obtain ⟨xs, e, d3⟩ := s3 us he ht hr
      have d2 := d1 g4.1
      rw [take_rest g1.inv h5'] at d2
      exact ⟨x.1 :: xs, by rw [e]; simp, .items d2 (isB_isT h5').2 d3⟩
theorem slist_operand_b (hn : 13 < n) {fo : T_parse_parser → Int → Option (T_parse_Node × T_parse_parser)} (ho : ∀ p a, PI p → 0 ≤ a → a ≤ 999 → Lf p + 31 ≤ n → Tot (fo p a) fun r => GA p r.2 ∧ (r.2.e_ = 0 → DE 64 (.lev 0) (a + 1) (rest p) [r.1] (rest r.2))) : SdA (n + 1) (p_parse_parser_list__operand_1_b fo n) := by
  intro p a h h0 h1 hb
  unfold p_parse_parser_list__operand_1_b
  have g1 := need_ga h (s := [40])
  obtain ⟨g2, g3, g4⟩ := take_gd g1.inv (s := [41])
  rw [need_eq h hn, Option.bind_some, take_eq g1.inv hn, Option.bind_some]
  refine Tot.iteb (fun h5 => .some ⟨g1.gd g2, fun he => ?_⟩) fun h5 => ?_
  · have h5' : isB (needP p [40]) [41] = true := h5
    obtain ⟨a1, a2, a3⟩ := need_ok h (isB_isT h5').1
    rw [a3, take_rest g1.inv h5']
    exact .none a2 (isB_isT h5').2
  have m1 := g1.at'
  have m2 := g2.at'
  have g5 := g1.gd g2
  have k0 := g2.inv.lo
  have k1 := g5.toGd.lf
  have k2 := h.lf
  have h5' : isB (needP p [40]) [41] = false := h5
  rw [g4 h5'] at g5 k0 k1 ⊢
  refine Tot.bind (P := fun y => Gd (needP p [40]) y.2 ∧ ∀ us, y.2.e_ = 0 → isT (tokP y.2) [41] → rest y.2 = tokP y.2 :: us → DE 64 .items a (rest (needP p [40])) y.1 us) ?_ fun y ⟨g6, d6⟩ => ?_
  · refine (slist_operand_l1 hn (k := (n : Int) - 31) (fun q hq hk => ho q a hq h0 (by omega) (by omega)) n [] (needP p [40]) g1.inv (fun he => ?_) ?_ (by simpa using k0)).bind fun y ⟨y1, y2, y3⟩ => .some ⟨y1, fun us he ht hr => ?_⟩
    · have := g1.lf he
      omega
    · unfold Lf at hb k1
      rw [g5.toGd.len] at k1 ⊢
      have := h.hi
      omega
    · obtain ⟨xs, e, d⟩ := y3 us he ht hr
      rw [List.nil_append] at e
      rw [show (y.1, y.2).1 = y.1 from rfl, e]
      exact d
  · have g7 := need_ga g6.inv (s := [41])
    rw [need_eq g6.inv hn, Option.bind_some]
    refine .some ⟨(g5.gd g6).ga g7, fun he => ?_⟩
    obtain ⟨a1, a2, a3⟩ := need_ok g6.inv he
    have e1 := g6.e0 a1
    obtain ⟨b1, b2, b3⟩ := need_ok h e1
    rw [b3]
    exact .args b2 (not_hdT g1.inv e1 h5') (d6 _ a1 a2 a3)
theorem fail_idem {e e' : Int} (he : e ≠ 0) : failP (failP p e) e' = failP p e := by
  have := fail_ne p he
  rw [failP, if_neg this]
theorem deep_idem {a : Int} : deepP (deepP p a) a = deepP p a := by
  unfold deepP
  by_cases h : 64 < a
  · rw [if_pos h, if_pos h, fail_idem (by decide)]
  · rw [if_neg h, if_neg h]
theorem operand_deep (h : PI p) {fe fo : T_parse_parser → Int → Option (T_parse_Node × T_parse_parser)} {fa : T_parse_parser → Int → Option ((List T_parse_Node) × T_parse_parser)} {a : Int} : p_parse_parser_operand_b fe fo fa n p a = p_parse_parser_operand_b fe fo fa n (deepP p a) a := by
  unfold p_parse_parser_operand_b
  rw [deep_eq h, deep_eq (deep_gd h).inv, deep_idem]
theorem soperand_b (hn : 13 < n) {fe fo : T_parse_parser → Int → Option (T_parse_Node × T_parse_parser)} {fa : T_parse_parser → Int → Option ((List T_parse_Node) × T_parse_parser)} (he' : OkE n 30 fe) (ho' : OkE n 21 fo) (ha' : OkA n fa) (he : SdE n 30 (.lev 0) fe) (ho : SdE n 21 .op fo) (ha : SdA n fa) : SdE (n + 1) 21 .op (p_parse_parser_operand_b fe fo fa n) := by
  intro p a h h0 h1 hb
  by_cases hd : 64 < a
  · rw [operand_deep h]
    have g1 := deep_gd h (a := a)
    have l1 := g1.lf
    refine (operand_b hn he' ho' ha' (deepP p a) a g1.inv (by omega)).mono fun r g => ⟨g1.ga g, fun hq => ?_⟩
    exact absurd (deep_ok (g.toGd.e0 hq)).2.1 (by omega)
  unfold p_parse_parser_operand_b
  have hdp : deepP p a = p := by unfold deepP; rw [if_neg hd]
  rw [deep_eq h, Option.bind_some, hdp, take_eq h hn, Option.bind_some]
  have m3 := h.lf
  rw [wrap64 (n := a + 1) (by omega) (by omega)]
  obtain ⟨g2, g3, g3'⟩ := take_gd h (s := [40])
  refine Tot.iteb (fun h5 => ?_) fun h5 => ?_
  · have h5' : isB p [40] = true := h5
    obtain ⟨_, g4, g5⟩ := g3 h5'
    have l1 := g4.lf g5
    refine (he _ _ g2.inv (by omega) (by omega) (by omega)).bind fun s ⟨g6, d6⟩ => ?_
    have g7 := need_ga g6.inv (s := [41])
    rw [need_eq g6.inv hn, Option.bind_some]
    refine .some ⟨g4.ga (g6.ga g7), fun hq => ?_⟩
    obtain ⟨a1, a2, a3⟩ := need_ok g6.inv hq
    have d7 := d6 a1
    rw [a3] at d7
    rw [take_rest h h5']
    exact .paren (by omega) (isB_isT h5').2 d7 a2
  have h5' : isB p [40] = false := h5
  simp only [g3' h5']
  have g4 := node_gd h
  rw [node_eq h, Option.bind_some]
  obtain ⟨c, hc⟩ : ∃ d, n = d + 3 := ⟨n - 3, by omega⟩
  have hl := fun x y => operand_l1_eq g4.inv hn (fo := fo) (a := a) (c := c) (x := x) (y := y)
  simp only [← hc] at hl
  rw [hl, wrap64 (n := a + 1) (by omega) (by omega)]
  have m4 := g4.lf
  have un : ∀ s : Str, (s = [126] ∨ s = [45]) → isB (nodeP p) s = true → Tot ((fo (takeP (nodeP p) s) (a + 1)).bind fun r => some (Sum.inr ({ (⟨15, (tokP p).At_, [], 0, []⟩ : T_parse_Node) with Kind_ := 18, Text_ := s, List_ := [r.1] }, r.2))) fun y : (T_parse_parser × T_parse_Node × T_parse_Node) ⊕ (T_parse_Node × T_parse_parser) => ∃ r, y = .inr r ∧ GA p r.2 ∧ (r.2.e_ = 0 → DE 64 .op a (rest p) [r.1] (rest r.2)) := by
    intro s hs hb
    obtain ⟨t1, t2, t3⟩ := take_gd g4.inv (s := s)
    obtain ⟨_, t4, t5⟩ := t2 hb
    have l1 := t4.lf t5
    refine (ho _ _ t1.inv (by omega) (by omega) (by omega)).bind fun r ⟨g6, d6⟩ => .some ⟨_, rfl, g4.ga (t4.ga g6), fun hq => ?_⟩
    have e1 := (isB_isT hb).2
    rw [tok_node] at e1
    have e2 := take_rest g4.inv hb
    rw [rest_node, tok_node] at e2
    rw [e2]
    exact .un (by omega) hs e1 (d6 hq)
  by_cases b1 : isB (nodeP p) [126] = true
  · rw [if_pos b1]
    refine (un _ (.inl rfl) b1).bind ?_
    rintro _ ⟨r, rfl, k1, k2⟩
    exact .some ⟨k1, k2⟩
  rw [if_neg b1]
  by_cases b2 : isB (nodeP p) [45] = true
  · rw [if_pos b2]
    refine (un _ (.inr rfl) b2).bind ?_
    rintro _ ⟨r, rfl, k1, k2⟩
    exact .some ⟨k1, k2⟩
  rw [if_neg b2, Option.bind_some]
  simp only [Sum.elim_inl]
  have hcond : (if ((nodeP p).e_ == (0 : Int)) = true then (p_parse_parser_token (nodeP p)).bind fun x72 => some (x72.Kind_ == (2 : Int)) else some false) = some ((nodeP p).e_ == 0 && (tokP p).Kind_ == 2) := by
    rw [token_eq g4.inv, tok_node]
    cases (nodeP p).e_ == (0 : Int) <;> rfl
  rw [hcond, Option.bind_some]
  refine Tot.iteb (fun h6 => ?_) fun h6 => ?_
  · rw [number_eq' g4.inv, Option.bind_some]
    refine .some ⟨g4.ga (num_ga g4.inv), fun hq => ?_⟩
    obtain ⟨a1, a2, a3, a4⟩ := num_ok g4.inv hq
    rw [tok_node] at a2 a3 a4
    rw [rest_node] at a4
    simp only [a3]
    rw [a4]
    exact .num (by omega) a2
  rw [name_eq g4.inv hn, Option.bind_some]
  have g8 := name_ga g4.inv
  have g9 := g4.ga g8
  have l8 := g9.toGd.lf
  have hnm : (nameP (nodeP p)).2.e_ = 0 → isN (tokP p) ∧ (nameP (nodeP p)).1 = (tokP p).Text_ ∧ rest p = tokP p :: rest (nameP (nodeP p)).2 := by
    intro hq
    obtain ⟨a1, a2, a3, a4⟩ := name_ok g4.inv hq
    rw [tok_node] at a2 a3 a4
    rw [rest_node] at a4
    exact ⟨a2, a3, a4⟩
  rw [is_eq g8.inv hn, Option.bind_some]
  refine Tot.bind' (Tot.iteb (fun h9 => ?_) fun h9 => ?_)
  · obtain ⟨e1, e2⟩ := isB_isT h9
    have l9 := g9.lf e1
    refine (ha _ a g8.inv h0 (by omega) (by omega)).bind fun u ⟨g10, d10⟩ => .some (.some ⟨g9.ga g10, fun hq => ?_⟩)
    obtain ⟨c1, c2, c3⟩ := hnm e1
    simp only [c2]
    rw [c3]
    exact .call (by omega) c1 (d10 hq)
  · obtain ⟨t1, t2, t3⟩ := take_gd g8.inv (s := [91])
    rw [take_eq g8.inv hn, Option.bind_some]
    refine Tot.iteb (fun h10 => ?_) fun h10 => ?_
    · have h10' : isB (nameP (nodeP p)).2 [91] = true := h10
      obtain ⟨e1, t4, t5⟩ := t2 h10'
      have l9 := (g9.ga t4).lf t5
      refine (he _ _ t1.inv (by omega) (by omega) (by omega)).bind fun v ⟨g13, d13⟩ => ?_
      have g14 := need_ga g13.inv (s := [93])
      rw [need_eq g13.inv hn, Option.bind_some]
      refine .some (.some ⟨g9.ga (t4.ga (g13.ga g14)), fun hq => ?_⟩)
      obtain ⟨a1, a2, a3⟩ := need_ok g13.inv hq
      obtain ⟨c1, c2, c3⟩ := hnm e1
      have d14 := d13 a1
      rw [a3] at d14
      simp only [c2]
      rw [c3, take_rest g8.inv h10']
      exact .index (by omega) c1 (isB_isT h10').2 d14 a2
    · have h10' : isB (nameP (nodeP p)).2 [91] = false := h10
      rw [t3 h10']
      refine .some (.some ⟨g9, fun hq => ?_⟩)
      obtain ⟨c1, c2, c3⟩ := hnm hq
      simp only [c2]
      rw [c3]
      exact .ref (by omega) c1 (not_hdT g8.inv hq h9) (not_hdT g8.inv hq h10')
theorem sgrp_ok : ∀ n : Nat, SdA n (p_parse_parser_list__operand_1_grp n).1 ∧ SdE n 30 (.lev 0) (p_parse_parser_list__operand_1_grp n).2.1 ∧ SdL n (p_parse_parser_list__operand_1_grp n).2.2.1 ∧ SdE n 21 .op (p_parse_parser_list__operand_1_grp n).2.2.2.1 ∧ (∀ p a, PI p → 0 ≤ a → a ≤ 999 → Lf p + 31 ≤ n → Tot ((p_parse_parser_list__operand_1_grp n).2.2.2.2 p a) fun r => GA p r.2 ∧ (r.2.e_ = 0 → DE 64 (.lev 0) (a + 1) (rest p) [r.1] (rest r.2))) := by
  have small : ∀ n : Nat, n ≤ 14 → SdA n (p_parse_parser_list__operand_1_grp n).1 ∧ SdE n 30 (.lev 0) (p_parse_parser_list__operand_1_grp n).2.1 ∧ SdL n (p_parse_parser_list__operand_1_grp n).2.2.1 ∧ SdE n 21 .op (p_parse_parser_list__operand_1_grp n).2.2.2.1 ∧ (∀ p a, PI p → 0 ≤ a → a ≤ 999 → Lf p + 31 ≤ n → Tot ((p_parse_parser_list__operand_1_grp n).2.2.2.2 p a) fun r => GA p r.2 ∧ (r.2.e_ = 0 → DE 64 (.lev 0) (a + 1) (rest p) [r.1] (rest r.2))) := by
    intro n hn
    refine ⟨fun p a h _ _ hb => ?_, fun p a h _ _ hb => ?_, fun p a b h _ _ _ hb => ?_, fun p a h _ _ hb => ?_, fun p a h _ _ hb => ?_⟩ <;> (have := h.lf; omega)
  intro n
  induction n with
  | zero => exact small 0 (by omega)
  | succ n ih =>
    by_cases hn : 13 < n
    · obtain ⟨i1, i2, i3, i4, i5⟩ := ih
      obtain ⟨j1, j2, j3, j4, j5⟩ := grp_ok n
      exact ⟨slist_operand_b hn i5, sexpr_b i3, slevel_b hn i4 i3, soperand_b hn j2 j4 j1 i2 i4 i1, soperand_1_b i2⟩
    · exact small (n + 1) (by omega)
theorem sexpr (h : PI p) {a : Int} (h0 : 0 ≤ a) (h1 : a ≤ 1000) (hb : Lf p + 30 ≤ n) : Tot (p_parse_parser_expr n p a) fun r => GA p r.2 ∧ (r.2.e_ = 0 → DE 64 (.lev 0) a (rest p) [r.1] (rest r.2)) := (sgrp_ok n).2.1 p a h h0 h1 hb
end
end Go.Proofs.YtolhahlnccekcaaDoor.Abs
namespace Go.Proofs.YtolhahlnccekcaaDoor.Abs
open Go.RowKit
set_option linter.unusedVariables false
set_option linter.unusedSimpArgs false
section
variable {n : Nat} {p : T_parse_parser}
theorem sparam (h : PI p) (hn : 13 < n) : Tot (p_parse_parser_param n p) fun r => GA p r.2 ∧ (r.2.e_ = 0 → DPar (rest p) r.1 (rest r.2)) := by
  have g1 := node_gd h
  have g2 := name_ga g1.inv
  have g3 := need_ga g2.inv (s := [58])
  have g4 := g1.ga (g2.ga g3)
  unfold p_parse_parser_param
  rw [node_eq h, Option.bind_some, name_eq g1.inv hn, Option.bind_some, need_eq g2.inv hn, Option.bind_some]
  have key : ∀ us, (needP (nameP (nodeP p)).2 [58]).e_ = 0 → rest (needP (nameP (nodeP p)).2 [58]) = us → ∃ u, isN (tokP p) ∧ isT u [58] ∧ (nameP (nodeP p)).1 = (tokP p).Text_ ∧ rest p = tokP p :: u :: us := by
    intro us he hr
    obtain ⟨a1, a2, a3⟩ := need_ok g2.inv he
    obtain ⟨b1, b2, b3, b4⟩ := name_ok g1.inv a1
    rw [tok_node] at b2 b3 b4
    rw [rest_node] at b4
    exact ⟨_, b2, a2, b3, by rw [b4, a3, hr]⟩
  generalize needP (nameP (nodeP p)).2 [58] = q at g3 g4 key ⊢
  obtain ⟨c, hc⟩ : ∃ d, n = d + 4 := ⟨n - 4, by omega⟩
  have hl := fun x y => param_l1_eq g3.inv hn (c := c) (x := x) (y := y)
  simp only [← hc] at hl
  rw [hl, Option.bind_some]
  have kw : ∀ (k : Int) (s : Str), (k = 1 ∧ s = [112, 117, 98] ∨ k = 2 ∧ s = [117, 51, 50] ∨ k = 3 ∧ s = [117, 54, 52]) → isB q s = true → GA p (takeP q s) ∧ ((takeP q s).e_ = 0 → DPar (rest p) ⟨3, (tokP p).At_, (nameP (nodeP p)).1, k, []⟩ (rest (takeP q s))) := by
    intro k s hk hb
    obtain ⟨t1, t2, t3⟩ := (take_gd g3.inv (s := s)).2.1 hb
    refine ⟨g4.ga t2, fun hq => ?_⟩
    obtain ⟨u, a1, a2, a3, a4⟩ := key _ t1 (take_rest g3.inv hb)
    rw [a3, a4]
    exact .word a1 a2 hk (isB_isT hb).2
  by_cases b1 : isB q [112, 117, 98] = true
  · rw [if_pos b1]; exact .some (kw 1 _ (.inl ⟨rfl, rfl⟩) b1)
  rw [if_neg b1]
  by_cases b2 : isB q [117, 51, 50] = true
  · rw [if_pos b2]; exact .some (kw 2 _ (.inr (.inl ⟨rfl, rfl⟩)) b2)
  rw [if_neg b2]
  by_cases b3 : isB q [117, 54, 52] = true
  · rw [if_pos b3]; exact .some (kw 3 _ (.inr (.inr ⟨rfl, rfl⟩)) b3)
  rw [if_neg b3]
  simp only [Sum.elim_inl]
  have g5 := node_gd g3.inv
  have g6 := size_ga g5.inv
  rw [node_eq g3.inv, Option.bind_some, size_eq g5.inv hn, Option.bind_some]
  refine .some ⟨g4.ga (g5.ga g6), fun hq => ?_⟩
  obtain ⟨c1, v, w, c2, c3, c4, c5, c6⟩ := size_ok g5.inv hq
  rw [tok_node] at c2 c6
  rw [rest_node] at c6
  obtain ⟨u, a1, a2, a3, a4⟩ := key _ (g5.e0 c1) c6
  simp only [a3, c5]
  rw [a4]
  exact .arr a1 a2 c2 c3 c4
theorem sparams_l1 (hn : 13 < n) : ∀ (c : Nat) (l : List T_parse_Node) (p : T_parse_parser), PI p → (p.l_.length : Int) - p.at_ < c → (l.length : Int) ≤ p.at_ → Tot (p_parse_parser_list__param_l1 n c l p) fun r => Gd p r.2 ∧ (r.1.length : Int) ≤ r.2.at_ + 1 ∧ ∀ us, r.2.e_ = 0 → isT (tokP r.2) [41] → rest r.2 = tokP r.2 :: us → ∃ xs, r.1 = l ++ xs ∧ DPars false (rest p) xs us := by
  intro c
  induction c with
  | zero => intro l p h h1 h2; have := h.hi; omega
  | succ c ih =>
    intro l p h h1 h2
    have k1 := h.lo
    have k2 := h.hi
    have k3 := h.big
    unfold p_parse_parser_list__param_l1
    refine Tot.iteb (fun h4 => ?_) fun h4 => .some ⟨.refl h, by simp only; omega, fun us he => by rw [show (l, p).2.e_ = p.e_ from rfl] at he; rw [he] at h4; cases h4⟩
    simp only [beq_iff_eq] at h4
    refine (sparam h hn).bind fun x ⟨g1, d1⟩ => ?_
    refine Tot.need (by simp only [List.length_singleton]; omega) ?_
    obtain ⟨g2, g3, g3'⟩ := take_gd g1.inv (s := [44])
    rw [take_eq g1.inv hn, Option.bind_some]
    have m1 := g1.at'
    have m2 := g2.at'
    refine Tot.iteb (fun h5 => .some ⟨g1.toGd.trans g2, by simp only [List.length_append, List.length_singleton]; omega, fun us he ht hr => ?_⟩) fun h5 => ?_
    · have h6 := g3' (by simpa using h5)
      simp only [h6] at he ht hr
      have d2 := d1 he
      rw [hr] at d2
      exact ⟨[x.1], rfl, .item d2 ht⟩
    · have h5' : isB x.2 [44] = true := by simpa using h5
      have g4 := g3 h5'
      have g5 := g1.ga g4.2.1
      have m3 := g1.adv g4.1
      have m4 := g1.toGd.trans g2
      refine (ih _ _ g2.inv (by rw [m4.len]; omega) (by simp only [List.length_append, List.length_singleton]; omega)).mono fun s ⟨s1, s2, s3⟩ => ⟨g5.toGd.trans s1, s2, fun us he ht hr => ?_⟩
      obtain ⟨xs, e, d3⟩ := s3 us he ht hr
      have d2 := d1 g4.1
      rw [take_rest g1.inv h5'] at d2
      exact ⟨x.1 :: xs, by rw [e]; simp, .items d2 (isB_isT h5').2 d3⟩
theorem sparams (h : PI p) (hn : 13 < n) (hb : (p.l_.length : Int) - p.at_ < n) : Tot (p_parse_parser_list__param n p) fun r => GA p r.2 ∧ (r.1.length : Int) ≤ r.2.at_ + 1 ∧ (r.2.e_ = 0 → DPars true (rest p) r.1 (rest r.2)) := by
  unfold p_parse_parser_list__param
  have g1 := need_ga h (s := [40])
  obtain ⟨g2, g3, g4⟩ := take_gd g1.inv (s := [41])
  have k0 := g1.inv.lo
  have k9 := g2.inv.lo
  rw [need_eq h hn, Option.bind_some, take_eq g1.inv hn, Option.bind_some]
  refine Tot.iteb (fun h5 => .some ⟨g1.gd g2, by simp only [List.length_nil]; omega, fun he => ?_⟩) fun h5 => ?_
  · have h5' : isB (needP p [40]) [41] = true := h5
    obtain ⟨a1, a2, a3⟩ := need_ok h (isB_isT h5').1
    rw [a3, take_rest g1.inv h5']
    exact .none a2 (isB_isT h5').2
  have h5' : isB (needP p [40]) [41] = false := h5
  rw [g4 h5']
  refine Tot.bind (P := fun y => Gd (needP p [40]) y.2 ∧ (y.1.length : Int) ≤ y.2.at_ + 1 ∧ ∀ us, y.2.e_ = 0 → isT (tokP y.2) [41] → rest y.2 = tokP y.2 :: us → DPars false (rest (needP p [40])) y.1 us) ?_ fun y ⟨g6, n6, d6⟩ => ?_
  · refine (sparams_l1 hn n [] (needP p [40]) g1.inv (by have := g1.at'; rw [g1.toGd.len]; omega) (by simpa using k0)).bind fun y ⟨y1, y2, y3⟩ => .some ⟨y1, y2, fun us he ht hr => ?_⟩
    obtain ⟨xs, e, d⟩ := y3 us he ht hr
    rw [List.nil_append] at e
    rw [show (y.1, y.2).1 = y.1 from rfl, e]
    exact d
  · have g7 := need_ga g6.inv (s := [41])
    have m7 := g7.at'
    rw [need_eq g6.inv hn, Option.bind_some]
    refine .some ⟨(g1.gd g6).ga g7, by simp only; omega, fun he => ?_⟩
    obtain ⟨a1, a2, a3⟩ := need_ok g6.inv he
    have e1 := g6.e0 a1
    obtain ⟨b1, b2, b3⟩ := need_ok h e1
    rw [b3]
    exact .args b2 (not_hdT g1.inv e1 h5') (d6 _ a1 a2 a3)
theorem splain_1 (h : PI p) {a : Int} (h0 : 0 ≤ a) (h1 : a ≤ 900) (hb : Lf p + 30 ≤ n) : Tot (p_parse_parser_plain_1 n p a) fun r => GA p r.2 ∧ (r.2.e_ = 0 → DE 64 (.lev 0) (a + 1 + 1) (rest p) [r.1] (rest r.2)) := by
  unfold p_parse_parser_plain_1
  rw [wrap64 (n := a + 2) (by omega) (by omega), show a + 2 = a + 1 + 1 by omega]
  exact (sexpr h (by omega) (by omega) hb).bind fun r g => .some g
theorem splist_l1 (hn : 13 < n) {a : Int} (h0 : 0 ≤ a) (h9 : a ≤ 900) : ∀ (c : Nat) (l : List T_parse_Node) (p : T_parse_parser), PI p → Lf p + 30 ≤ n → (p.l_.length : Int) - p.at_ < c → (l.length : Int) ≤ p.at_ → Tot (p_parse_parser_list__plain_1_l1 n a c l p) fun r => Gd p r.2 ∧ (r.1.length : Int) ≤ r.2.at_ + 1 ∧ ∀ us, r.2.e_ = 0 → isT (tokP r.2) [41] → rest r.2 = tokP r.2 :: us → ∃ xs, r.1 = l ++ xs ∧ DE 64 .items (a + 1) (rest p) xs us := by
  intro c
  induction c with
  | zero => intro l p h _ h1 h2; have := h.hi; omega
  | succ c ih =>
    intro l p h hk h1 h2
    have k1 := h.lo
    have k2 := h.hi
    have k3 := h.big
    unfold p_parse_parser_list__plain_1_l1
    refine Tot.iteb (fun h4 => ?_) fun h4 => .some ⟨.refl h, by simp only; omega, fun us he => by rw [show (l, p).2.e_ = p.e_ from rfl] at he; rw [he] at h4; cases h4⟩
    simp only [beq_iff_eq] at h4
    refine (splain_1 h h0 h9 hk).bind fun x ⟨g1, d1⟩ => ?_
    refine Tot.need (by simp only [List.length_singleton]; omega) ?_
    obtain ⟨g2, g3, g3'⟩ := take_gd g1.inv (s := [44])
    rw [take_eq g1.inv hn, Option.bind_some]
    have m1 := g1.at'
    have m2 := g2.at'
    refine Tot.iteb (fun h5 => .some ⟨g1.toGd.trans g2, by simp only [List.length_append, List.length_singleton]; omega, fun us he ht hr => ?_⟩) fun h5 => ?_
    · have h6 := g3' (by simpa using h5)
      simp only [h6] at he ht hr
      have d2 := d1 he
      rw [hr] at d2
      exact ⟨[x.1], rfl, .item d2 ht⟩
    · have h5' : isB x.2 [44] = true := by simpa using h5
      have g4 := g3 h5'
      have g5 := g1.ga g4.2.1
      have m3 := g1.adv g4.1
      have m4 := g1.toGd.trans g2
      have m5 := g5.toGd.lf
      refine (ih _ _ g2.inv (by omega) (by rw [m4.len]; omega) (by simp only [List.length_append, List.length_singleton]; omega)).mono fun s ⟨s1, s2, s3⟩ => ⟨g5.toGd.trans s1, s2, fun us he ht hr => ?_⟩
      obtain ⟨xs, e, d3⟩ := s3 us he ht hr
      have d2 := d1 g4.1
      rw [take_rest g1.inv h5'] at d2
      exact ⟨x.1 :: xs, by rw [e]; simp, .items d2 (isB_isT h5').2 d3⟩
theorem splist (h : PI p) {a : Int} (h0 : 0 ≤ a) (h9 : a ≤ 900) (hb : Lf p + 30 ≤ n) : Tot (p_parse_parser_list__plain_1 n p a) fun r => GA p r.2 ∧ (r.2.e_ = 0 → DE 64 .args (a + 1) (rest p) r.1 (rest r.2)) := by
  have hn : 13 < n := by have := h.lf; omega
  unfold p_parse_parser_list__plain_1
  have g1 := need_ga h (s := [40])
  obtain ⟨g2, g3, g4⟩ := take_gd g1.inv (s := [41])
  rw [need_eq h hn, Option.bind_some, take_eq g1.inv hn, Option.bind_some]
  refine Tot.iteb (fun h5 => .some ⟨g1.gd g2, fun he => ?_⟩) fun h5 => ?_
  · have h5' : isB (needP p [40]) [41] = true := h5
    obtain ⟨a1, a2, a3⟩ := need_ok h (isB_isT h5').1
    rw [a3, take_rest g1.inv h5']
    exact .none a2 (isB_isT h5').2
  have k0 := g1.inv.lo
  have k1 := g1.toGd.lf
  have h5' : isB (needP p [40]) [41] = false := h5
  rw [g4 h5']
  refine Tot.bind (P := fun y => Gd (needP p [40]) y.2 ∧ ∀ us, y.2.e_ = 0 → isT (tokP y.2) [41] → rest y.2 = tokP y.2 :: us → DE 64 .items (a + 1) (rest (needP p [40])) y.1 us) ?_ fun y ⟨g6, d6⟩ => ?_
  · refine (splist_l1 hn h0 h9 n [] (needP p [40]) g1.inv (by omega) ?_ (by simpa using k0)).bind fun y ⟨y1, y2, y3⟩ => .some ⟨y1, fun us he ht hr => ?_⟩
    · unfold Lf at hb k1
      rw [g1.toGd.len] at k1 ⊢
      have := h.hi
      omega
    · obtain ⟨xs, e, d⟩ := y3 us he ht hr
      rw [List.nil_append] at e
      rw [show (y.1, y.2).1 = y.1 from rfl, e]
      exact d
  · have g7 := need_ga g6.inv (s := [41])
    rw [need_eq g6.inv hn, Option.bind_some]
    refine .some ⟨(g1.gd g6).ga g7, fun he => ?_⟩
    obtain ⟨a1, a2, a3⟩ := need_ok g6.inv he
    have e1 := g6.e0 a1
    obtain ⟨b1, b2, b3⟩ := need_ok h e1
    rw [b3]
    exact .args b2 (not_hdT g1.inv e1 h5') (d6 _ a1 a2 a3)
theorem snamed (h : PI p) {x : T_parse_Node} {a : Int} (h0 : 0 ≤ a) (h9 : a ≤ 900) (hb : Lf p + 30 ≤ n) : Tot (p_parse_parser_named n p x (a + 1)) fun r => GA p r.2 ∧ (r.2.e_ = 0 → ∀ t s, (x.Kind_ = 5 ∧ s = [108, 101, 116] ∨ x.Kind_ = 6 ∧ s = [118, 97, 114]) → isT t s → x = ⟨x.Kind_, t.At_, [], 0, []⟩ → DS 64 .stmt a (t :: rest p) [r.1] (rest r.2)) := by
  have hn : 13 < n := by have := h.lf; omega
  have g1 := name_ga h
  have g2 := need_ga g1.inv (s := [61])
  have l1 := g1.toGd.lf
  have l2 := g2.toGd.lf
  unfold p_parse_parser_named
  rw [name_eq h hn, Option.bind_some, need_eq g1.inv hn, Option.bind_some]
  refine (sexpr g2.inv (by omega) (by omega) (by omega)).bind fun s ⟨g3, d3⟩ => ?_
  have g4 := need_ga g3.inv (s := [59])
  rw [need_eq g3.inv hn, Option.bind_some]
  refine .some ⟨g1.ga (g2.ga (g3.ga g4)), fun hq t s' hk ht hx => ?_⟩
  obtain ⟨a1, a2, a3⟩ := need_ok g3.inv hq
  have d4 := d3 a1
  obtain ⟨b1, b2, b3⟩ := need_ok g1.inv (g3.toGd.e0 a1)
  obtain ⟨c1, c2, c3, c4⟩ := name_ok h b1
  rw [a3] at d4
  rw [c4, b3]
  simp only [c3]
  rw [hx]
  exact .bind hk ht c2 b2 d4 a2
theorem splain (h : PI p) {x : T_parse_Node} (hx : x = ⟨8, (tokP p).At_, [], 0, []⟩) {a : Int} (h0 : 0 ≤ a) (h9 : a ≤ 900) (hb : Lf p + 30 ≤ n) : Tot (p_parse_parser_plain n p x a) fun r => GA p r.2 ∧ (r.2.e_ = 0 → DS 64 .stmt a (rest p) [r.1] (rest r.2)) := by
  have hn : 13 < n := by have := h.lf; omega
  subst hx
  have g1 := name_ga h
  have l1 := g1.toGd.lf
  unfold p_parse_parser_plain
  rw [name_eq h hn, Option.bind_some, wrap64 (n := a + 1) (by omega) (by omega), wrap64 (n := a + 2) (by omega) (by omega)]
  refine Tot.bind (P := fun y => GA p y.1 ∧ ∀ us, y.1.e_ = 0 → isT (tokP y.1) [59] → rest y.1 = tokP y.1 :: us → DS 64 .stmt a (rest p) [y.2] us) ?_ fun y ⟨g, d⟩ => ?_
  case refine_2 =>
    have g2 := need_ga g.inv (s := [59])
    rw [need_eq g.inv hn, Option.bind_some]
    refine .some ⟨g.ga g2, fun hq => ?_⟩
    obtain ⟨a1, a2, a3⟩ := need_ok g.inv hq
    exact d _ a1 a2 a3
  rw [is_eq g1.inv hn, Option.bind_some]
  refine Tot.iteb (fun h3 => ?_) fun h3 => ?_
  · refine (splist g1.inv h0 h9 (by omega)).bind fun s ⟨g2, d2⟩ => .some ⟨g1.ga g2, fun us he ht hr => ?_⟩
    obtain ⟨c1, c2, c3, c4⟩ := name_ok h (isB_isT h3).1
    have d3 := d2 he
    simp only at hr
    rw [hr] at d3
    simp only [c3]
    rw [c4]
    exact .call c2 d3 ht
  · obtain ⟨t1, t2, t3⟩ := take_gd g1.inv (s := [91])
    rw [take_eq g1.inv hn, Option.bind_some]
    have l2 := t1.lf
    refine Tot.iteb (fun h4 => ?_) fun h4 => ?_
    · have h4' : isB (nameP p).2 [91] = true := h4
      refine (sexpr t1.inv (by omega) (by omega) (by omega)).bind fun s ⟨g2, d2⟩ => ?_
      have g3 := need_ga g2.inv (s := [93])
      have g4 := need_ga g3.inv (s := [61])
      have l3 := g2.toGd.lf
      have l4 := g3.toGd.lf
      have l5 := g4.toGd.lf
      rw [need_eq g2.inv hn, Option.bind_some, need_eq g3.inv hn, Option.bind_some]
      refine (sexpr g4.inv (by omega) (by omega) (by omega)).bind fun w ⟨g5, d5⟩ => Tot.need (by simp) (.some ⟨(g1.gd t1).ga (g2.ga (g3.ga (g4.ga g5))), fun us he ht hr => ?_⟩)
      obtain ⟨c1, c2, c3, c4⟩ := name_ok h (isB_isT h4').1
      have d6 := d5 he
      obtain ⟨a1, a2, a3⟩ := need_ok g3.inv (g5.toGd.e0 he)
      obtain ⟨b1, b2, b3⟩ := need_ok g2.inv a1
      have d7 := d2 b1
      rw [b3, a3] at d7
      simp only at hr
      rw [hr] at d6
      simp only [c3]
      rw [c4, take_rest g1.inv h4']
      exact .put c2 (isB_isT h4').2 d7 b2 a2 d6 ht
    · have h4' : isB (nameP p).2 [91] = false := h4
      rw [t3 h4']
      have g4 := need_ga g1.inv (s := [61])
      have l5 := g4.toGd.lf
      rw [need_eq g1.inv hn, Option.bind_some]
      refine (sexpr g4.inv (by omega) (by omega) (by omega)).bind fun w ⟨g5, d5⟩ => .some ⟨g1.ga (g4.ga g5), fun us he ht hr => ?_⟩
      have d6 := d5 he
      obtain ⟨a1, a2, a3⟩ := need_ok g1.inv (g5.toGd.e0 he)
      obtain ⟨c1, c2, c3, c4⟩ := name_ok h a1
      simp only at hr
      rw [hr] at d6
      simp only [c3]
      rw [c4, a3]
      exact .set c2 a2 d6 ht
end
end Go.Proofs.YtolhahlnccekcaaDoor.Abs
