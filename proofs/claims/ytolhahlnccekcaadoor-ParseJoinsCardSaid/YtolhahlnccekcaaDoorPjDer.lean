/-
  Parses: what a parse without an error is, as derivations over lists of tokens.
-/
import Derived.Test.YtolhahlnccekcaaDoorPjPrB
namespace Go.Proofs.YtolhahlnccekcaaDoor.Abs
open Go.RowKit
set_option linter.unusedVariables false
abbrev Tok := T_lex_Token
abbrev Nd := T_parse_Node
def isT (t : Tok) (s : Str) : Prop := t.Text_ = s ∧ (t.Kind_ = 3 ∨ (t.Kind_ = 1 ∧ isWord s = true))
def hdT (l : List Tok) (s : Str) : Prop := ∃ t r, l = t :: r ∧ isT t s
def isN (t : Tok) : Prop := t.Kind_ = 1 ∧ isWord t.Text_ = false
inductive EK
  | op
  | lev (l : Nat)
  | tail (l : Nat) (x : Nd)
  | args
  | items
inductive DE (D : Int) : EK → Int → List Tok → List Nd → List Tok → Prop
  | paren {d t ts x u us} : d ≤ D → isT t [40] → DE D (.lev 0) (d + 1) ts [x] (u :: us) → isT u [41] → DE D .op d (t :: ts) [x] us
  | un {d t s ts x us} : d ≤ D → (s = [126] ∨ s = [45]) → isT t s → DE D .op (d + 1) ts [x] us → DE D .op d (t :: ts) [⟨18, t.At_, s, 0, [x]⟩] us
  | num {d t ts} : d ≤ D → t.Kind_ = 2 → DE D .op d (t :: ts) [⟨14, t.At_, [], t.Num_, []⟩] ts
  | ref {d t ts} : d ≤ D → isN t → ¬ hdT ts [40] → ¬ hdT ts [91] → DE D .op d (t :: ts) [⟨15, t.At_, t.Text_, 0, []⟩] ts
  | call {d t ts xs us} : d ≤ D → isN t → DE D .args d ts xs us → DE D .op d (t :: ts) [⟨17, t.At_, t.Text_, 0, xs⟩] us
  | index {d t u us x v vs} : d ≤ D → isN t → isT u [91] → DE D (.lev 0) (d + 1) us [x] (v :: vs) → isT v [93] → DE D .op d (t :: u :: us) [⟨16, t.At_, t.Text_, 0, [x]⟩] vs
  | last {d ts x us} : DE D .op d ts [x] us → DE D (.lev 7) d ts [x] us
  | lev {l d ts x us y vs} : l < 7 → DE D (.lev (l + 1)) d ts [x] us → DE D (.tail l x) d us [y] vs → DE D (.lev l) d ts [y] vs
  | stop {l : Nat} {x d us} : l < 7 → (∀ s ∈ levP l, s ≠ [] → ¬ hdT us s) → DE D (.tail l x) d us [x] us
  | one {s x d u us y vs} : s ∈ levP 3 → s ≠ [] → isT u s → DE D (.lev 4) d us [y] vs → DE D (.tail 3 x) d (u :: us) [⟨19, u.At_, s, 0, [x, y]⟩] vs
  | more {l : Nat} {s x d u us y vs z ws} : l < 7 → l ≠ 3 → s ∈ levP l → s ≠ [] → isT u s → DE D (.lev (l + 1)) d us [y] vs → DE D (.tail l ⟨19, u.At_, s, 0, [x, y]⟩) d vs [z] ws → DE D (.tail l x) d (u :: us) [z] ws
  | none {d t u us} : isT t [40] → isT u [41] → DE D .args d (t :: u :: us) [] us
  | args {d t ts xs us} : isT t [40] → ¬ hdT ts [41] → DE D .items d ts xs us → DE D .args d (t :: ts) xs us
  | item {d ts x u us} : DE D (.lev 0) (d + 1) ts [x] (u :: us) → isT u [41] → DE D .items d ts [x] us
  | items {d ts x u us xs vs} : DE D (.lev 0) (d + 1) ts [x] (u :: us) → isT u [44] → DE D .items d us xs vs → DE D .items d ts (x :: xs) vs
inductive SK
  | block
  | stmts
  | stmt
inductive DS (D : Int) : SK → Int → List Tok → List Nd → List Tok → Prop
  | block {d t ts xs u us} : d ≤ D → isT t [123] → DS D .stmts d ts xs (u :: us) → isT u [125] → DS D .block d (t :: ts) [⟨4, t.At_, [], 0, xs⟩] us
  | nil {d ts} : hdT ts [125] → DS D .stmts d ts [] ts
  | cons {d ts x us xs vs} : ¬ hdT ts [125] → DS D .stmt d ts [x] us → DS D .stmts d us xs vs → DS D .stmts d ts (x :: xs) vs
  | bind {d t k s u v vs x w ws} : (k = 5 ∧ s = [108, 101, 116] ∨ k = 6 ∧ s = [118, 97, 114]) → isT t s → isN u → isT v [61] → DE D (.lev 0) (d + 1) vs [x] (w :: ws) → isT w [59] → DS D .stmt d (t :: u :: v :: vs) [⟨k, t.At_, u.Text_, 0, [x]⟩] ws
  | arr {d t u v w z y ys} : isT t [97, 114, 114] → isN u → isT v [91] → w.Kind_ = 2 → isT z [93] → isT y [59] → DS D .stmt d (t :: u :: v :: w :: z :: y :: ys) [⟨7, t.At_, u.Text_, w.Num_, []⟩] ys
  | ret {d t ts x u us} : isT t [114, 101, 116, 117, 114, 110] → DE D (.lev 0) (d + 1) ts [x] (u :: us) → isT u [59] → DS D .stmt d (t :: ts) [⟨13, t.At_, [], 0, [x]⟩] us
  | choice {d t ts c us b vs} : isT t [105, 102] → DE D (.lev 0) (d + 1) ts [c] us → DS D .block (d + 1) us [b] vs → ¬ hdT vs [101, 108, 115, 101] → DS D .stmt d (t :: ts) [⟨11, t.At_, [], 0, [c, b]⟩] vs
  | choice2 {d t ts c us b v vs b' ws} : isT t [105, 102] → DE D (.lev 0) (d + 1) ts [c] us → DS D .block (d + 1) us [b] (v :: vs) → isT v [101, 108, 115, 101] → DS D .block (d + 1) vs [b'] ws → DS D .stmt d (t :: ts) [⟨11, t.At_, [], 0, [c, b, b']⟩] ws
  | loop {d t u v vs a w ws b xs k ys} : isT t [102, 111, 114] → isN u → isT v [105, 110] → DE D (.lev 0) (d + 1) vs [a] (w :: ws) → isT w [46, 46] → DE D (.lev 0) (d + 1) ws [b] xs → DS D .block (d + 1) xs [k] ys → DS D .stmt d (t :: u :: v :: vs) [⟨12, t.At_, u.Text_, 0, [a, b, k]⟩] ys
  | call {d t ts xs u us} : isN t → DE D .args (d + 1) ts xs (u :: us) → isT u [59] → DS D .stmt d (t :: ts) [⟨10, t.At_, t.Text_, 0, xs⟩] us
  | put {d t u us i v w ws x y ys} : isN t → isT u [91] → DE D (.lev 0) (d + 2) us [i] (v :: w :: ws) → isT v [93] → isT w [61] → DE D (.lev 0) (d + 1) ws [x] (y :: ys) → isT y [59] → DS D .stmt d (t :: u :: us) [⟨9, t.At_, t.Text_, 0, [i, x]⟩] ys
  | set {d t u us x v vs} : isN t → isT u [61] → DE D (.lev 0) (d + 1) us [x] (v :: vs) → isT v [59] → DS D .stmt d (t :: u :: us) [⟨8, t.At_, t.Text_, 0, [x]⟩] vs
/-- a parameter -/
inductive DPar : List Tok → Nd → List Tok → Prop
  | word {t u k s v vs} : isN t → isT u [58] → (k = 1 ∧ s = [112, 117, 98] ∨ k = 2 ∧ s = [117, 51, 50] ∨ k = 3 ∧ s = [117, 54, 52]) → isT v s → DPar (t :: u :: v :: vs) ⟨3, t.At_, t.Text_, k, []⟩ vs
  | arr {t u v w x xs} : isN t → isT u [58] → isT v [91] → w.Kind_ = 2 → isT x [93] → DPar (t :: u :: v :: w :: x :: xs) ⟨3, t.At_, t.Text_, 4, [⟨14, v.At_, [], w.Num_, []⟩]⟩ xs
inductive DPars : Bool → List Tok → List Nd → List Tok → Prop
  | none {t u us} : isT t [40] → isT u [41] → DPars true (t :: u :: us) [] us
  | args {t ts xs us} : isT t [40] → ¬ hdT ts [41] → DPars false ts xs us → DPars true (t :: ts) xs us
  | item {ts x u us} : DPar ts x (u :: us) → isT u [41] → DPars false ts [x] us
  | items {ts x u us xs vs} : DPar ts x (u :: us) → isT u [44] → DPars false us xs vs → DPars false ts (x :: xs) vs
/-- a result's type -/
inductive DRes : List Tok → Int → List Tok → Prop
  | none {ts} : ¬ hdT ts [45, 62] → DRes ts 0 ts
  | short {t u us} : isT t [45, 62] → isT u [117, 51, 50] → DRes (t :: u :: us) 2 us
  | long {t u us} : isT t [45, 62] → isT u [117, 54, 52] → DRes (t :: u :: us) 4 us
inductive DF (D : Int) : List Tok → Nd → List Tok → Prop
  | plain {t u us xs vs r ws b ys} : isT t [102, 110] → isN u → DPars true us xs vs → DRes vs r ws → DS D .block 1 ws [b] ys → DF D (t :: u :: us) ⟨2, t.At_, u.Text_, r, xs ++ [b]⟩ ys
  | exp {e t u us xs vs r ws b ys} : isT e [101, 120, 112, 111, 114, 116] → isT t [102, 110] → isN u → DPars true us xs vs → DRes vs r ws → DS D .block 1 ws [b] ys → DF D (e :: t :: u :: us) ⟨2, e.At_, u.Text_, r + 1, xs ++ [b]⟩ ys
inductive DFs (D : Int) : List Tok → List Nd → List Tok → Prop
  | nil {ts} : DFs D ts [] ts
  | cons {ts x us xs vs} : DF D ts x us → DFs D us xs vs → DFs D ts (x :: xs) vs
end Go.Proofs.YtolhahlnccekcaaDoor.Abs
