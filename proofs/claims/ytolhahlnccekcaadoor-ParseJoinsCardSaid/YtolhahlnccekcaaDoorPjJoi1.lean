/-
  Derivations moved: other offsets, and another rest.
-/
import Derived.Test.YtolhahlnccekcaaDoorPjDer
namespace Go.Proofs.YtolhahlnccekcaaDoor.Abs
open Go.RowKit
set_option linter.unusedVariables false
set_option linter.unusedSimpArgs false
def shT (d : Int) (t : Tok) : Tok := { t with At_ := t.At_ + d }
mutual
def shN (d : Int) : Nd → Nd
  | ⟨k, a, t, n, l⟩ => ⟨k, a + d, t, n, shL d l⟩
def shL (d : Int) : List Nd → List Nd
  | [] => []
  | x :: l => shN d x :: shL d l
end
theorem shL_map (d : Int) (l : List Nd) : shL d l = l.map (shN d) := by
  induction l with
  | nil => rw [shL]; rfl
  | cons x l ih => rw [shL, ih]; rfl
theorem shN_mk (d k a : Int) (t : Str) (n : Int) (l : List Nd) : shN d ⟨k, a, t, n, l⟩ = ⟨k, a + d, t, n, l.map (shN d)⟩ := by rw [shN, shL_map]
theorem hdT_sh {d : Int} {ts : List Tok} {s : Str} : hdT (ts.map (shT d)) s ↔ hdT ts s := by
  cases ts with
  | nil => exact Iff.rfl
  | cons t ts =>
    constructor
    · rintro ⟨u, r, e, h⟩
      rw [List.map_cons] at e
      injection e with e1 e2
      rw [← e1] at h
      exact ⟨_, _, rfl, h⟩
    · rintro ⟨u, r, e, h⟩
      injection e with e1 e2
      rw [e1]
      exact ⟨_, _, rfl, h⟩
def shK (d : Int) : EK → EK
  | .tail l x => .tail l (shN d x)
  | k => k
theorem DE.sh {D : Int} {K a ts xs us} (d : Int) (h : DE D K a ts xs us) : DE D (shK d K) a (ts.map (shT d)) (xs.map (shN d)) (us.map (shT d)) := by
  induction h with
  | paren hd ht h1 hu ih => exact .paren hd ht ih hu
  | un hd hs ht h1 ih => simp only [List.map_cons, List.map_nil, shN_mk]; exact .un hd hs ht ih
  | num hd hk => simp only [List.map_cons, List.map_nil, shN_mk]; exact .num hd hk
  | ref hd hk h1 h2 => simp only [List.map_cons, List.map_nil, shN_mk]; exact .ref hd hk (fun k => h1 (hdT_sh.1 k)) (fun k => h2 (hdT_sh.1 k))
  | call hd hk h1 ih => simp only [List.map_cons, List.map_nil, shN_mk]; exact .call hd hk ih
  | index hd hk hu h1 hv ih => simp only [List.map_cons, List.map_nil, shN_mk]; exact .index hd hk hu ih hv
  | last h1 ih => exact .last ih
  | lev hl h1 h2 ih1 ih2 => exact .lev hl ih1 ih2
  | stop hl hn => exact .stop hl fun s h1 h2 k => hn s h1 h2 (hdT_sh.1 k)
  | one hs hne hu h1 ih => simp only [List.map_cons, List.map_nil, shN_mk]; exact .one hs hne hu ih
  | more hl h3 hs hne hu h1 h2 ih1 ih2 =>
    simp only [shK, List.map_cons, List.map_nil, shN_mk] at ih2
    exact .more hl h3 hs hne hu ih1 ih2
  | none ht hu => exact .none ht hu
  | args ht hn h1 ih => exact .args ht (fun k => hn (hdT_sh.1 k)) ih
  | item h1 hu ih => exact .item ih hu
  | items h1 hu h2 ih1 ih2 => exact .items ih1 hu ih2
theorem DS.sh {D : Int} {K a ts xs us} (d : Int) (h : DS D K a ts xs us) : DS D K a (ts.map (shT d)) (xs.map (shN d)) (us.map (shT d)) := by
  induction h with
  | block hd ht h1 hu ih => simp only [List.map_cons, List.map_nil, shN_mk]; exact .block hd ht ih hu
  | nil h1 => exact .nil (hdT_sh.2 h1)
  | cons h1 h2 h3 ih1 ih2 => exact .cons (fun k => h1 (hdT_sh.1 k)) ih1 ih2
  | bind hk ht hu hv h1 hw => simp only [List.map_cons, List.map_nil, shN_mk]; exact .bind hk ht hu hv (h1.sh d) hw
  | arr ht hu hv hw hz hy => simp only [List.map_cons, List.map_nil, shN_mk]; exact .arr ht hu hv hw hz hy
  | ret ht h1 hu => simp only [List.map_cons, List.map_nil, shN_mk]; exact .ret ht (h1.sh d) hu
  | choice ht h1 h2 hn ih => simp only [List.map_cons, List.map_nil, shN_mk]; exact .choice ht (h1.sh d) ih (fun k => hn (hdT_sh.1 k))
  | choice2 ht h1 h2 he h3 ih1 ih2 => simp only [List.map_cons, List.map_nil, shN_mk]; exact .choice2 ht (h1.sh d) ih1 he ih2
  | loop ht hu hv h1 hw h2 h3 ih => simp only [List.map_cons, List.map_nil, shN_mk]; exact .loop ht hu hv (h1.sh d) hw (h2.sh d) ih
  | call ht h1 hu => simp only [List.map_cons, List.map_nil, shN_mk]; exact .call ht (h1.sh d) hu
  | put ht hu h1 hv hw h2 hy => simp only [List.map_cons, List.map_nil, shN_mk]; exact .put ht hu (h1.sh d) hv hw (h2.sh d) hy
  | set ht hu h1 hv => simp only [List.map_cons, List.map_nil, shN_mk]; exact .set ht hu (h1.sh d) hv
theorem DPar.sh {ts x us} (d : Int) (h : DPar ts x us) : DPar (ts.map (shT d)) (shN d x) (us.map (shT d)) := by
  cases h with
  | word ht hu hk hs => simp only [List.map_cons, List.map_nil, shN_mk]; exact .word ht hu hk hs
  | arr ht hu hv hw hx => simp only [List.map_cons, List.map_nil, shN_mk]; exact .arr ht hu hv hw hx
theorem DPars.sh {b ts xs us} (d : Int) (h : DPars b ts xs us) : DPars b (ts.map (shT d)) (xs.map (shN d)) (us.map (shT d)) := by
  induction h with
  | none ht hu => exact .none ht hu
  | args ht hn h1 ih => exact .args ht (fun k => hn (hdT_sh.1 k)) ih
  | item h1 hu => exact .item (h1.sh d) hu
  | items h1 hu h2 ih => exact .items (h1.sh d) hu ih
theorem DRes.sh {ts k us} (d : Int) (h : DRes ts k us) : DRes (ts.map (shT d)) k (us.map (shT d)) := by
  cases h with
  | none h => exact .none fun k => h (hdT_sh.1 k)
  | short ht hu => exact .short ht hu
  | long ht hu => exact .long ht hu
theorem DF.sh {D ts x us} (d : Int) (h : DF D ts x us) : DF D (ts.map (shT d)) (shN d x) (us.map (shT d)) := by
  cases h with
  | plain ht hu h1 h2 h3 =>
    simp only [List.map_cons, shN_mk, List.map_append, List.map_nil]
    exact .plain ht hu (h1.sh d) (h2.sh d) (h3.sh d)
  | exp he ht hu h1 h2 h3 =>
    simp only [List.map_cons, shN_mk, List.map_append, List.map_nil]
    exact .exp he ht hu (h1.sh d) (h2.sh d) (h3.sh d)
theorem DFs.sh {D ts xs us} (d : Int) (h : DFs D ts xs us) : DFs D (ts.map (shT d)) (xs.map (shN d)) (us.map (shT d)) := by
  induction h with
  | nil => exact .nil
  | cons h1 h2 ih => exact .cons (h1.sh d) ih
/-! another rest -/
def LA (us us' : List Tok) : Prop := ∀ s, hdT us s ↔ hdT us' s
theorem LA.cons {t : Tok} {us us' : List Tok} : LA (t :: us) (t :: us') := by
  intro s
  constructor <;> (rintro ⟨u, r, e, h⟩; cases e; exact ⟨_, _, rfl, h⟩)
theorem LA.app {w us us' : List Tok} (h : LA us us') : LA (w ++ us) (w ++ us') := by
  cases w with
  | nil => exact h
  | cons t w => exact .cons
theorem DE.pre {D : Int} {K a ts xs us} (h : DE D K a ts xs us) : ∃ w, ts = w ++ us ∧ ∀ us', LA us us' → DE D K a (w ++ us') xs us' := by
  induction h with
  | @paren d t ts x u us hd ht h1 hu ih =>
    obtain ⟨w, rfl, ih⟩ := ih
    refine ⟨t :: (w ++ [u]), by simp, fun us' _ => ?_⟩
    rw [List.cons_append, List.append_assoc]
    exact .paren hd ht (ih (u :: us') .cons) hu
  | @un d t s ts x us hd hs ht h1 ih =>
    obtain ⟨w, rfl, ih⟩ := ih
    exact ⟨t :: w, rfl, fun us' hl => .un hd hs ht (ih us' hl)⟩
  | @num d t ts hd hk => exact ⟨[t], rfl, fun us' hl => .num hd hk⟩
  | @ref d t ts hd hk h1 h2 => exact ⟨[t], rfl, fun us' hl => .ref hd hk (fun k => h1 ((hl _).2 k)) (fun k => h2 ((hl _).2 k))⟩
  | @call d t ts xs us hd hk h1 ih =>
    obtain ⟨w, rfl, ih⟩ := ih
    exact ⟨t :: w, rfl, fun us' hl => .call hd hk (ih us' hl)⟩
  | @index d t u us x v vs hd hk hu h1 hv ih =>
    obtain ⟨w, rfl, ih⟩ := ih
    refine ⟨t :: u :: (w ++ [v]), by simp, fun us' _ => ?_⟩
    rw [List.cons_append, List.cons_append, List.append_assoc]
    exact .index hd hk hu (ih (v :: us') .cons) hv
  | last h1 ih =>
    obtain ⟨w, rfl, ih⟩ := ih
    exact ⟨w, rfl, fun us' hl => .last (ih us' hl)⟩
  | lev hl h1 h2 ih1 ih2 =>
    obtain ⟨w2, rfl, ih2⟩ := ih2
    obtain ⟨w1, rfl, ih1⟩ := ih1
    refine ⟨w1 ++ w2, by rw [List.append_assoc], fun us' hl' => ?_⟩
    rw [List.append_assoc]
    exact .lev hl (ih1 _ hl'.app) (ih2 us' hl')
  | stop hl hn => exact ⟨[], rfl, fun us' hl' => .stop hl fun s h1 h2 k => hn s h1 h2 ((hl' _).2 k)⟩
  | @one s x d u us y vs hs hne hu h1 ih =>
    obtain ⟨w, rfl, ih⟩ := ih
    exact ⟨u :: w, rfl, fun us' hl => .one hs hne hu (ih us' hl)⟩
  | @more l s x d u us y vs z ws hl h3 hs hne hu h1 h2 ih1 ih2 =>
    obtain ⟨w2, rfl, ih2⟩ := ih2
    obtain ⟨w1, rfl, ih1⟩ := ih1
    refine ⟨u :: (w1 ++ w2), by simp, fun us' hl' => ?_⟩
    rw [List.cons_append, List.append_assoc]
    exact .more hl h3 hs hne hu (ih1 _ hl'.app) (ih2 us' hl')
  | @none d t u us ht hu => exact ⟨[t, u], rfl, fun us' _ => .none ht hu⟩
  | @args d t ts xs us ht hn h1 ih =>
    obtain ⟨w, rfl, ih⟩ := ih
    refine ⟨t :: w, rfl, fun us' hl => .args ht (fun k => hn ((hl.app _).2 k)) (ih us' hl)⟩
  | @item d ts x u us h1 hu ih =>
    obtain ⟨w, rfl, ih⟩ := ih
    refine ⟨w ++ [u], by simp, fun us' _ => ?_⟩
    rw [List.append_assoc]
    exact .item (ih (u :: us') .cons) hu
  | @items d ts x u us xs vs h1 hu h2 ih1 ih2 =>
    obtain ⟨w2, rfl, ih2⟩ := ih2
    obtain ⟨w1, rfl, ih1⟩ := ih1
    refine ⟨w1 ++ u :: w2, by simp, fun us' hl => ?_⟩
    rw [List.append_assoc]
    exact .items (ih1 (u :: (w2 ++ us')) .cons) hu (ih2 us' hl)
theorem DS.pre {D : Int} {K a ts xs us} (h : DS D K a ts xs us) : ∃ w, ts = w ++ us ∧ ∀ us', (K = .block ∨ LA us us') → DS D K a (w ++ us') xs us' := by
  induction h with
  | @block d t ts xs u us hd ht h1 hu ih =>
    obtain ⟨w, rfl, ih⟩ := ih
    refine ⟨t :: (w ++ [u]), by simp, fun us' _ => ?_⟩
    rw [List.cons_append, List.append_assoc]
    exact .block hd ht (ih (u :: us') (.inr .cons)) hu
  | nil h1 =>
    refine ⟨[], rfl, fun us' hl => .nil ?_⟩
    rcases hl with hl | hl
    · cases hl
    · exact (hl _).1 h1
  | cons h1 h2 h3 ih1 ih2 =>
    obtain ⟨w2, rfl, ih2⟩ := ih2
    obtain ⟨w1, rfl, ih1⟩ := ih1
    refine ⟨w1 ++ w2, by rw [List.append_assoc], fun us' hl => ?_⟩
    rcases hl with hl | hl
    · cases hl
    rw [List.append_assoc]
    exact .cons (fun k => h1 ((hl.app.app _).2 k)) (ih1 _ (.inr hl.app)) (ih2 us' (.inr hl))
  | @bind d t k s u v vs x w ws hk ht hu hv h1 hw =>
    obtain ⟨w1, rfl, ih⟩ := h1.pre
    refine ⟨t :: u :: v :: (w1 ++ [w]), by simp, fun us' _ => ?_⟩
    rw [List.cons_append, List.cons_append, List.cons_append, List.append_assoc]
    exact .bind hk ht hu hv (ih (w :: us') .cons) hw
  | @arr d t u v w z y ys ht hu hv hw hz hy => exact ⟨[t, u, v, w, z, y], rfl, fun us' _ => .arr ht hu hv hw hz hy⟩
  | @ret d t ts x u us ht h1 hu =>
    obtain ⟨w1, rfl, ih⟩ := h1.pre
    refine ⟨t :: (w1 ++ [u]), by simp, fun us' _ => ?_⟩
    rw [List.cons_append, List.append_assoc]
    exact .ret ht (ih (u :: us') .cons) hu
  | @choice d t ts c us b vs ht h1 h2 hn ih =>
    obtain ⟨w2, rfl, ih⟩ := ih
    obtain ⟨w1, rfl, ih1⟩ := h1.pre
    refine ⟨t :: (w1 ++ w2), by simp, fun us' hl => ?_⟩
    rcases hl with hl | hl
    · cases hl
    rw [List.cons_append, List.append_assoc]
    exact .choice ht (ih1 _ hl.app) (ih us' (.inl rfl)) (fun k => hn ((hl _).2 k))
  | @choice2 d t ts c us b v vs b' ws ht h1 h2 he h3 ih1 ih2 =>
    obtain ⟨w3, rfl, ih3⟩ := ih2
    obtain ⟨w2, rfl, ih2⟩ := ih1
    obtain ⟨w1, rfl, ih1⟩ := h1.pre
    refine ⟨t :: (w1 ++ (w2 ++ v :: w3)), by simp, fun us' hl => ?_⟩
    rw [List.cons_append, List.append_assoc, List.append_assoc]
    have e : LA (w2 ++ v :: (w3 ++ ws)) (w2 ++ v :: (w3 ++ us')) := LA.app .cons
    exact .choice2 ht (ih1 _ e) (ih2 (v :: (w3 ++ us')) (.inl rfl)) he (ih3 us' (.inl rfl))
  | @loop d t u v vs a w ws b xs k ys ht hu hv h1 hw h2 h3 ih =>
    obtain ⟨w3, rfl, ih3⟩ := ih
    obtain ⟨w2, rfl, ih2⟩ := h2.pre
    obtain ⟨w1, rfl, ih1⟩ := h1.pre
    refine ⟨t :: u :: v :: (w1 ++ w :: (w2 ++ w3)), by simp, fun us' hl => ?_⟩
    rw [List.cons_append, List.cons_append, List.cons_append, List.append_assoc, List.cons_append, List.append_assoc]
    rcases hl with hl | hl
    · cases hl
    exact .loop ht hu hv (ih1 _ .cons) hw (ih2 _ hl.app) (ih3 us' (.inl rfl))
  | @call d t ts xs u us ht h1 hu =>
    obtain ⟨w1, rfl, ih⟩ := h1.pre
    refine ⟨t :: (w1 ++ [u]), by simp, fun us' _ => ?_⟩
    rw [List.cons_append, List.append_assoc]
    exact .call ht (ih (u :: us') .cons) hu
  | @put d t u us i v w ws x y ys ht hu h1 hv hw h2 hy =>
    obtain ⟨w2, rfl, ih2⟩ := h2.pre
    obtain ⟨w1, rfl, ih1⟩ := h1.pre
    refine ⟨t :: u :: (w1 ++ v :: w :: (w2 ++ [y])), by simp, fun us' _ => ?_⟩
    rw [List.cons_append, List.cons_append, List.append_assoc, List.cons_append, List.cons_append, List.append_assoc]
    exact .put ht hu (ih1 _ .cons) hv hw (ih2 (y :: us') .cons) hy
  | @set d t u us x v vs ht hu h1 hv =>
    obtain ⟨w1, rfl, ih⟩ := h1.pre
    refine ⟨t :: u :: (w1 ++ [v]), by simp, fun us' _ => ?_⟩
    rw [List.cons_append, List.cons_append, List.append_assoc]
    exact .set ht hu (ih (v :: us') .cons) hv
theorem DPar.pre {ts x us} (h : DPar ts x us) : ∃ w, ts = w ++ us ∧ ∀ us', DPar (w ++ us') x us' := by
  cases h with
  | @word t u k s v vs ht hu hk hs => exact ⟨[t, u, v], rfl, fun us' => .word ht hu hk hs⟩
  | @arr t u v w x xs ht hu hv hw hx => exact ⟨[t, u, v, w, x], rfl, fun us' => .arr ht hu hv hw hx⟩
theorem DPars.pre {b ts xs us} (h : DPars b ts xs us) : ∃ w, ts = w ++ us ∧ ∀ us', LA us us' → DPars b (w ++ us') xs us' := by
  induction h with
  | @none t u us ht hu => exact ⟨[t, u], rfl, fun us' _ => .none ht hu⟩
  | @args t ts xs us ht hn h1 ih =>
    obtain ⟨w, rfl, ih⟩ := ih
    exact ⟨t :: w, rfl, fun us' hl => .args ht (fun k => hn ((hl.app _).2 k)) (ih us' hl)⟩
  | @item ts x u us h1 hu =>
    obtain ⟨w, rfl, ih⟩ := h1.pre
    refine ⟨w ++ [u], by simp, fun us' _ => ?_⟩
    rw [List.append_assoc]
    exact .item (ih (u :: us')) hu
  | @items ts x u us xs vs h1 hu h2 ih2 =>
    obtain ⟨w2, rfl, ih2⟩ := ih2
    obtain ⟨w1, rfl, ih1⟩ := h1.pre
    refine ⟨w1 ++ u :: w2, by simp, fun us' hl => ?_⟩
    rw [List.append_assoc]
    exact .items (ih1 (u :: (w2 ++ us'))) hu (ih2 us' hl)
theorem DRes.pre {ts k us} (h : DRes ts k us) : ∃ w, ts = w ++ us ∧ ∀ us', LA us us' → DRes (w ++ us') k us' := by
  cases h with
  | none h => exact ⟨[], rfl, fun us' hl => .none fun k => h ((hl _).2 k)⟩
  | @short t u us ht hu => exact ⟨[t, u], rfl, fun us' _ => .short ht hu⟩
  | @long t u us ht hu => exact ⟨[t, u], rfl, fun us' _ => .long ht hu⟩
theorem DS.block_hd {D : Int} {a ts xs us} (h : DS D .block a ts xs us) : ∃ t r, ts = t :: r := by
  cases h with
  | block hd ht h1 hu => exact ⟨_, _, rfl⟩
theorem DF.pre {D ts x us} (h : DF D ts x us) : ∃ w, ts = w ++ us ∧ ∀ us', DF D (w ++ us') x us' := by
  have key : ∀ {us1 : List Tok} {xs vs k ws b ys}, DPars true us1 xs vs → DRes vs k ws → DS D .block 1 ws [b] ys → ∃ w1 w2 w3, us1 = w1 ++ (w2 ++ (w3 ++ ys)) ∧ ∀ us', DPars true (w1 ++ (w2 ++ (w3 ++ us'))) xs (w2 ++ (w3 ++ us')) ∧ DRes (w2 ++ (w3 ++ us')) k (w3 ++ us') ∧ DS D .block 1 (w3 ++ us') [b] us' := by
    intro us1 xs vs k ws b ys h1 h2 h3
    obtain ⟨t, r, e⟩ := h3.block_hd
    obtain ⟨w3, rfl, i3⟩ := h3.pre
    obtain ⟨w2, rfl, i2⟩ := h2.pre
    obtain ⟨w1, rfl, i1⟩ := h1.pre
    refine ⟨w1, w2, w3, rfl, fun us' => ?_⟩
    have hla : LA (w3 ++ ys) (w3 ++ us') := by
      cases w3 with
      | cons t w => exact .cons
      | nil =>
        exfalso
        have := i3 [] (.inl rfl)
        obtain ⟨t, r, e⟩ := this.block_hd
        cases e
    exact ⟨i1 _ hla.app, i2 _ hla, i3 us' (.inl rfl)⟩
  cases h with
  | @plain t u us1 xs vs k ws b ys ht hu h1 h2 h3 =>
    obtain ⟨w1, w2, w3, rfl, hk⟩ := key h1 h2 h3
    refine ⟨t :: u :: (w1 ++ (w2 ++ w3)), by simp, fun us' => ?_⟩
    rw [List.cons_append, List.cons_append, List.append_assoc, List.append_assoc]
    exact .plain ht hu (hk us').1 (hk us').2.1 (hk us').2.2
  | @exp e t u us1 xs vs k ws b ys he ht hu h1 h2 h3 =>
    obtain ⟨w1, w2, w3, rfl, hk⟩ := key h1 h2 h3
    refine ⟨e :: t :: u :: (w1 ++ (w2 ++ w3)), by simp, fun us' => ?_⟩
    rw [List.cons_append, List.cons_append, List.cons_append, List.append_assoc, List.append_assoc]
    exact .exp he ht hu (hk us').1 (hk us').2.1 (hk us').2.2
theorem DFs.pre {D ts xs us} (h : DFs D ts xs us) : ∃ w, ts = w ++ us ∧ ∀ us', DFs D (w ++ us') xs us' := by
  induction h with
  | nil => exact ⟨[], rfl, fun _ => .nil⟩
  | cons h1 h2 ih =>
    obtain ⟨w2, rfl, ih2⟩ := ih
    obtain ⟨w1, rfl, ih1⟩ := h1.pre
    refine ⟨w1 ++ w2, by rw [List.append_assoc], fun us' => ?_⟩
    rw [List.append_assoc]
    exact .cons (ih1 _) (ih2 us')
theorem DFs.app {D ts xs us ys vs} (h : DFs D ts xs us) (k : DFs D us ys vs) : DFs D ts (xs ++ ys) vs := by
  induction h with
  | nil => exact k
  | cons h1 h2 ih => exact .cons h1 (ih k)
end Go.Proofs.YtolhahlnccekcaaDoor.Abs
