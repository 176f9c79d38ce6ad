/-
  Own helper theorems of no one function: strings as lists of bytes; calls by their contracts; what stands under a path.
-/
import Derived.Test.YtolhahlnccekcaaDoorA22
namespace Go.Proofs.YtolhahlnccekcaaDoor.Abs
open Go.RowKit

abbrev Str := List UInt8
def bs (l : Str) : ByteArray := ⟨l.toArray⟩
theorem bs_size (l : Str) : (bs l).size = l.length := by simp [bs, ByteArray.size]
theorem bs_inj {a b : Str} : bs a = bs b ↔ a = b := by
  constructor
  · intro h
    have := congrArg (fun x : ByteArray => x.data.toList) h
    simpa [bs] using this
  · rintro rfl; rfl
theorem bs_of (b : ByteArray) : ∃ l, b = bs l := ⟨b.data.toList, by cases b; simp [bs]⟩
theorem bs_append (a b : Str) : bs a ++ bs b = bs (a ++ b) := by
  apply ByteArray.ext
  rw [ByteArray.data_append]
  simp [bs]
theorem bs_get (l : Str) (i : Nat) (h : i < (bs l).size) : (bs l)[i] = l[i]'(by rw [bs_size] at h; exact h) := by
  show (bs l).data[i] = _
  simp [bs, List.drop_take]
theorem bs_extract (l : Str) (a b : Nat) : (bs l).extract a b = bs ((l.take b).drop a) := by
  apply ByteArray.ext
  rw [ByteArray.data_extract]
  apply Array.ext'
  simp [bs, List.drop_take]
/-- the rows of a slice of bytes -/
def byteRows (l : Str) : List (List V) := l.map fun b => [.lit (.int .u8 (b.toNat : Int))]
theorem bytesRows_bs (l : Str) : bytesRows (bs l) = byteRows l := by simp [bytesRows, byteRows, bs]
def sgo (o : Option UInt8) (C : V → Prop) : Prop := match o with | some c => C (.lit (.int .u8 (c.toNat : Int))) | none => False
section
variable {P : Program} {T : TypeId} {x y : Operand} {C : V → Prop} {m : M} {E : Env} {s t l : Str} {k : IntKind} {i : Int} {o : Own} {f : FuncId} {args : List V} {q p : Pa}
@[go_sem] theorem sgo_some {c : UInt8} : sgo (some c) C = C (.lit (.int .u8 (c.toNat : Int))) := _root_.id rfl
@[congr] theorem sgo_congr {o o' : Option UInt8} (h : o = o') : sgo o C = sgo o' C := by rw [h]
@[go_sem high] theorem ev_strb : ev m E (.const (.string ⟨l.toArray⟩)) = .lit (.string (bs l)) := _root_.id rfl
@[go_sem high] theorem sbin_seqlb : sbin P .eql T x y (.lit (.string (bs s))) (.lit (.string (bs t))) C = C (.lit (.bool (decide (s = t)))) := by
  rw [sbin_seql]; simp only [bs_inj]
@[go_sem high] theorem sbin_sneqb : sbin P .neq T x y (.lit (.string (bs s))) (.lit (.string (bs t))) C = C (.lit (.bool (decide (s ≠ t)))) := by
  have : ((bs s).toList == (bs t).toList) = decide (s = t) := by
    by_cases h : s = t
    · subst h; simp
    · have : ¬ (bs s).toList = (bs t).toList := fun e => h (bs_inj.1 (byteArray_toList_inj e))
      simp [h, this]
  simp [sbin, this]
@[go_sem high] theorem sbin_saddb : sbin P .add T x y (.lit (.string (bs s))) (.lit (.string (bs t))) C = (s.length + t.length ≤ 4611686018427387904 ∧ C (.lit (.string (bs (s ++ t))))) := by
  rw [sbin_sadd, bs_size, bs_size, bs_append]
@[go_sem high] theorem slenU_sb : slenU .str (.lit (.string (bs s))) C = C (.lit (.int .i64 s.length)) := by rw [slenU_s, bs_size]
@[go_sem high] theorem sindexU_sb : sindexU P .str (.lit (.string (bs s))) (.lit (.int k i)) C = (0 ≤ i ∧ sgo s[i.toNat]? C) := by
  rw [sindexU_s]
  apply propext
  refine and_congr_right fun _ => ?_
  by_cases h : i.toNat < s.length
  · have h' : i.toNat < (bs s).size := by rw [bs_size]; exact h
    rw [List.getElem?_eq_getElem h, sgo_some]
    exact ⟨fun ⟨_, hc⟩ => by rw [bs_get] at hc; exact hc, fun hc => ⟨h', by rw [bs_get]; exact hc⟩⟩
  · rw [List.getElem?_eq_none (by omega)]
    exact ⟨fun ⟨h', _⟩ => absurd (by rw [bs_size] at h'; exact h') h, fun hc => hc.elim⟩
def slB : Option Int → Option Int → Str → (V → Prop) → Prop
  | some a, some b, s, C => 0 ≤ a ∧ a ≤ b ∧ b ≤ s.length ∧ C (.lit (.string (bs ((s.take b.toNat).drop a.toNat))))
  | _, _, _, _ => False
@[go_sem high] theorem slU_sb {lo hi : Option V} : slU P .str (.lit (.string (bs s))) lo hi C = slB (bndV lo 0) (bndV hi s.length) s C := by
  rw [slU_s, bs_size]
  unfold slS slB
  cases bndV lo 0 <;> cases bndV hi s.length <;> first | rfl | (simp only [bs_size, bs_extract])
@[go_sem] theorem slB_some {a b : Int} : slB (some a) (some b) s C = (0 ≤ a ∧ a ≤ b ∧ b ≤ s.length ∧ C (.lit (.string (bs ((s.take b.toNat).drop a.toNat))))) := _root_.id rfl
@[go_sem high] theorem cvU_lsb {D e : TypeId} : cvU P T D (.sl e) .str (.list o (byteRows s)) C = (ud P e = .int .u8 ∧ C (.lit (.string (bs s)))) := by
  rw [← bytesRows_bs, cvU_ls]
@[go_sem high] theorem cvU_slb {D e : TypeId} : cvU P T D .str (.sl e) (.lit (.string (bs s))) C = (ud P e = .int .u8 ∧ s.length ≤ 4611686018427387904 ∧ C (.list .none (byteRows s))) := by
  rw [cvU_sl, bytesRows_bs, bs_size]
@[congr] theorem slB_congr {a a' b b' : Option Int} {s s' : Str} (h1 : a = a') (h2 : b = b') (h3 : s = s') : slB a b s C = slB a' b' s' C := by rw [h1, h2, h3]

/-! a call by its contract -/
theorem SC.by_ {C : V → M → Prop} {v : V} {m' : M} (h : SC P f args q m (fun r m1 => r = v ∧ m1 = m')) (hC : C v m') : SC P f args q m C :=
  h.mono fun _ _ ⟨e1, e2⟩ => by rw [e1, e2]; exact hC

/-! a block that is told to be somewhere else -/
theorem set_same {a : List V} (h : m.blk p = some a) : m.set p a = m := by
  cases m with | mk blk ver tok gl =>
  unfold M.set
  congr 1
  funext i
  show (if i = p then some a else blk i) = blk i
  split
  · rename_i hi; rw [hi]; exact h.symm
  · rfl
theorem set_swap {a b : List V} {p2 : Pa} (h : p ≠ p2) : (m.set p a).set p2 b = (m.set p2 b).set p a := by
  unfold M.set
  congr 1
  funext i
  show (if i = p2 then some b else if i = p then some a else m.blk i) = (if i = p then some a else if i = p2 then some b else m.blk i)
  by_cases h1 : i = p2
  · subst h1; rw [if_pos rfl, if_neg (fun e => h e.symm), if_pos rfl]
  · rw [if_neg h1, if_neg h1]
theorem back_out {m2 : M} {a : List V} (h : ¬ q <:+ p) : m.back q (m2.set p a) = (m.back q m2).set p a := by
  have hs : ¬ q.isSuffixOf p = true := fun e => h (List.isSuffixOf_iff_suffix.1 e)
  unfold M.back M.set
  congr 1
  funext i
  show (if q.isSuffixOf i then m.blk i else if i = p then some a else m2.blk i) = (if i = p then some a else if q.isSuffixOf i then m.blk i else m2.blk i)
  by_cases h1 : i = p
  · subst h1; rw [if_neg hs, if_pos rfl, if_pos rfl]
  · rw [if_neg h1, if_neg h1]
end
attribute [go_sem] List.map_cons List.map_nil List.toList_toArray Option.map_some Option.map_none List.nil_append List.append_nil List.cons_append true_and and_true List.drop_succ_cons List.drop_zero List.take_succ_cons List.take_zero List.set_cons_zero List.set_cons_succ List.length_cons List.length_nil List.length_map List.getElem?_cons_zero List.getElem?_cons_succ List.getElem?_map List.forall_mem_cons List.not_mem_nil false_implies implies_true Bool.not_true Bool.not_false beq_self_eq_true Bool.or_true Bool.true_or Bool.and_true Bool.true_and Bool.or_false Bool.false_or Bool.and_false Bool.false_and List.forall_mem_map Int.natCast_nonneg Int.toNat_natCast decide_true decide_false List.take_length
end Go.Proofs.YtolhahlnccekcaaDoor.Abs
