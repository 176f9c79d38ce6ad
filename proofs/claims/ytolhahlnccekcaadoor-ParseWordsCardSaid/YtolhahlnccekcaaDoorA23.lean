/-
  Own helper theorems of no one function: from a call seen from above to a claim's walk; data that came in.
-/
import Derived.Test.YtolhahlnccekcaaDoorA22
import Derived.Below
namespace Go.Proofs.YtolhahlnccekcaaDoor.Abs
open Go.RowKit

def M.start : M := ⟨fun _ => none, fun _ _ => 0, fun _ _ => false, fun _ => .top⟩
def Conc.start (w : World) (G : GG) : Conc := ⟨w.heap.size, fun _ => False, fun _ => none, fun _ => none, G⟩
section
variable {P : Program} {w : World} {G : GG}
theorem none_some {α : Type} {x : α} {p : Prop} (h : (none : Option α) = some x) : p := by cases h
theorem start_rep (hC : Com w G) : Rep (Conc.start w G) M.start w :=
  ⟨hC, fun _ _ h => none_some h, fun _ _ _ h => absurd rfl h, fun s b cap sz len _ hk => none_some hk, fun s s' b cap sz len cap' sz' len' _ _ hk => none_some hk, fun _ _ _ h => absurd rfl h, fun g => .top .nil, fun _ _ => ⟨fun _ => rfl, fun _ => rfl⟩, Nat.le_refl _, fun _ h => h.elim⟩
theorem start_fresh (q : Pa) : FreshU (Conc.start w G) q := fun _ _ => ⟨rfl, fun _ => rfl, fun _ _ => rfl⟩
theorem start_owned (b : Nat) : ¬ Owned (Conc.start w G) M.start b := by
  rintro (⟨id, h, _⟩ | ⟨s, cap, sz, len, _, hk⟩)
  · exact h rfl
  · cases hk
theorem Ext.below {q : Pa} {c' : Conc} {m' : M} {w' : World} (h : Ext q (Conc.start w G) M.start w c' m' w') : Below w.heap.size w w' :=
  ⟨h.os, h.tape, h.output, h.size, fun b hb => h.heap b hb (start_owned b) (.inl hb)⟩
/-- a claim's walk -/
theorem SC.claim {f : FuncId} {args : List V} {xs : List Value} {R : M → Prop} (hen : ∀ (xs : Array Value) (w : World), (callFunc f xs).run P w = .ok (.enter f xs) w) (h : SC P f args [] M.start (fun r m' => r = .lit (.bool true) ∧ R m')) (hC : Com w G) (ha : CR (Conc.start w G) args xs) :
    Calls P f xs.toArray w fun e w' => e = .returned (.bool true) ∧ Below w.heap.size w w' :=
  by
  rcases h (Conc.start w G) xs w (start_rep hC) ha (start_fresh []) with ⟨_, k⟩ | ⟨x, w', k, _⟩
  · refine k.mono fun _ _ ⟨x, c', r, m', e, ⟨hr, _⟩, _, hX, hv⟩ => ?_
    subst e hr
    exact ⟨by rw [hv.inv_lit], hX.below⟩
  · rw [hen] at k; cases k
/-- a slice of numbers that came in -/
theorem ints_in {c : Conc} {k : IntKind} {a : Option Addr} {cap : Nat} {zs : List Int} (hl : zs.length ≤ cap) (hm : cap ≤ maxLen) (ha : 0 < zs.length → ∃ b off, a = some ⟨b, off, none⟩) (hG : Lies c.G a (zs.map (Value.int k))) : CR c [.list .none (zs.map fun z => [.lit (.int k z)])] [.slice a zs.length cap] := by
  have hcr : ∀ l : List Int, CR c ((l.map fun z => [V.lit (.int k z)]).flatten) (l.map (Value.int k)) := by
    intro l
    induction l with
    | nil => exact .nil
    | cons z l ih => exact .lit ih
  have := CR.list (o := .none) (a := a) (cap := cap) (c := c) (rows := zs.map fun z => [V.lit (.int k z)]) (es := zs.map (Value.int k)) (sz := 1) (vs := []) (cs := []) (hcr zs) (by intro r hr; obtain ⟨y, _, rfl⟩ := List.mem_map.1 hr; rfl) (by decide) (by simpa using hl) hm (by simpa using ha) hG (by intro u hu; obtain ⟨y, _, rfl⟩ := List.mem_map.1 hu; rfl) trivial .nil
  simpa using this
/-- a walk of the first way, seen from above -/
theorem Rep.st {c : Conc} {m : M} {w' : World} {G' : GG} (h : Rep c m w) (hS : St c.G w none G' w') (q : Pa) : Rep { c with G := G' } m w' ∧ Ext q c m w { c with G := G' } m w' := by
  have hg := hS.gr
  have hle : Le c { c with G := G' } := ⟨rfl, fun _ x => x, fun _ _ x => x, fun _ _ x => x, hS.ext.le⟩
  have hown : ∀ b, Owned { c with G := G' } m b → Owned c m b := fun b ho => ho
  refine ⟨⟨hS.com, fun id vs hv => ?_, h.inj, fun s b cap sz len hl hk => ?_, h.ownInj, h.ver, fun g => (h.gl g).mono hle, fun id hf => h.ver0 id (hf.anti hle), Nat.le_trans h.base hg.size, fun b hb => ⟨(h.lit b hb).1, Nat.lt_of_lt_of_le (h.lit b hb).2.1 hg.size, (h.lit b hb).2.2⟩⟩,
    ⟨hle, hg.os, hg.tape, hg.output, hg.size, fun b hb _ _ => hg.block b hb (by simp), fun b hb _ o => hS.ext.same b hb o, fun b _ ho => hown b ho, fun id _ hf => hf, fun id _ hb => ⟨hb.blk, hb.anon, hb.cell, hb.ver, hb.tok⟩, fun b _ hb => hb⟩⟩
  · obtain ⟨b, cs, t, k1, k2, k3, k4, k5⟩ := h.blk id vs hv
    exact ⟨b, cs, t, k1, k2.grown hg (by simp), k3.mono hle, hS.ext.out k4 k2.lt, k5⟩
  · obtain ⟨⟨cs, t, k1, k2⟩, k3, k4⟩ := h.own s b cap sz len hl hk
    exact ⟨⟨cs, t, k1.grown hg (by simp), k2⟩, fun o ho => (hS.ext.same b k1.lt o).trans (k3 o ho), k4⟩
theorem SC_st {f : FuncId} {q : Pa} {m : M} {b : Bool} (hen : ∀ (xs : Array Value) (w : World), (callFunc f xs).run P w = .ok (.enter f xs) w)
    (h : ∀ (G : GG) (w : World), Com w G → Calls P f #[] w fun e w' => e = .returned (.bool b) ∧ ∃ G', St G w none G' w') : SC P f [] q m (fun r m' => r = .lit (.bool b) ∧ m' = m) := by
  intro c xs w hR hx hf
  refine .inl ⟨hen _ w, ?_⟩
  rw [hx.inv_nil]
  refine (h c.G w hR.com).mono fun e w' ⟨he, G', hS⟩ => ?_
  obtain ⟨h1, h2⟩ := hR.st hS q
  exact ⟨_, _, _, m, he, ⟨rfl, rfl⟩, h1, h2, .lit .nil⟩
end
end Go.Proofs.YtolhahlnccekcaaDoor.Abs
