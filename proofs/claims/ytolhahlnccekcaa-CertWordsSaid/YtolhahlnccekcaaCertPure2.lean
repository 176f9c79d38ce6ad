/-
  The certificate's reader: what is left gets no longer; what is read is small.
-/
import Derived.Test.YtolhahlnccekcaaCertPure
namespace Go.Proofs.Ytolhahlnccekcaa

def Shr {α : Type} (g : RS → α × RS) : Prop := ∀ s : RS, (g s).2.b.length ≤ s.b.length

theorem num_len : ∀ (l : List Nat) (i : Nat) (n m : Int) (l' : List Nat), num i n l = some (m, l') → l'.length ≤ l.length
  | [], i, n, m, l', h => by simp [num] at h
  | c :: l, i, n, m, l', h => by
    rw [num] at h
    split at h
    · cases h
    · simp only at h
      split at h
      · injection h with h; injection h with _ h; subst h; simp
      · split at h
        · cases h
        · have := num_len l (i + 1) _ m l' h
          simp; omega
theorem shr_number : Shr RS.number := by
  intro s
  unfold RS.number
  split
  · rename_i n l h
    exact num_len _ _ _ _ _ h
  · exact Nat.le_refl _
theorem shr_count : Shr RS.count := by
  intro s
  have := shr_number s
  unfold RS.count
  simp only
  split
  · exact this
  · exact this
theorem shr_place : Shr RS.place := by
  intro s
  have := shr_number s
  unfold RS.place
  simp only
  split
  · exact this
  · exact this
theorem shr_many : Shr RS.many := by
  intro s
  have := shr_count s
  unfold RS.many
  by_cases h : (s.count.2.b.length : Int) < s.count.1
  · simp only [h, if_true, RS.spoil]; exact this
  · simp only [h, if_false]
    split
    · exact this
    · exact this
theorem RS.deep_len2 (d : Int) (s : RS) : (s.deep d).2.b.length ≤ s.b.length := by
  unfold RS.deep
  simp only
  split <;> simp [RS.spoil]
theorem shr_loop {α : Type} {g : RS → α × RS} (hg : Shr g) : ∀ (k : Nat) (acc : List α) (s : RS), (loop g k acc s).2.b.length ≤ s.b.length ∧ (loop g k acc s).1.length ≤ acc.length + k
  | 0, acc, s => ⟨Nat.le_refl _, Nat.le_refl _⟩
  | k + 1, acc, s => by
    rw [loop]
    split
    · exact ⟨Nat.le_refl _, by simp⟩
    · have h1 := shr_loop hg k (acc ++ [(g s).1]) (g s).2
      have h2 := hg s
      simp only [List.length_append, List.length_cons, List.length_nil] at h1 ⊢
      exact ⟨by omega, by omega⟩
theorem loop_all {α : Type} {g : RS → α × RS} {Q : α → Prop} {L : Nat} (hs : Shr g) (hg : ∀ s : RS, s.b.length ≤ L → Q (g s).1) : ∀ (k : Nat) (acc : List α) (s : RS), s.b.length ≤ L → (∀ x ∈ acc, Q x) → ∀ x ∈ (loop g k acc s).1, Q x
  | 0, acc, s, _, h => h
  | k + 1, acc, s, hL, h => by
    rw [loop]
    split
    · exact h
    · have := hs s
      refine loop_all hs hg k _ _ (by omega) (fun x hx => ?_)
      rcases List.mem_append.1 hx with hx | hx
      · exact h x hx
      · rw [List.mem_singleton.1 hx]; exact hg s hL
theorem shr_reps {α : Type} {g : RS → α × RS} (hg : Shr g) : ∀ (k : Nat) (acc : List α) (s : RS), (reps g k acc s).2.b.length ≤ s.b.length
  | 0, acc, s => Nat.le_refl _
  | k + 1, acc, s => by
    rw [reps]
    have h1 := shr_reps hg k (acc ++ [(g s).1]) (g s).2
    have h2 := hg s
    omega
theorem reps_all {α : Type} {g : RS → α × RS} {Q : α → Prop} {L : Nat} (hs : Shr g) (hg : ∀ s : RS, s.b.length ≤ L → Q (g s).1) : ∀ (k : Nat) (acc : List α) (s : RS), s.b.length ≤ L → (∀ x ∈ acc, Q x) → ∀ x ∈ (reps g k acc s).1, Q x
  | 0, acc, s, _, h => h
  | k + 1, acc, s, hL, h => by
    rw [reps]
    have := hs s
    refine reps_all hs hg k _ _ (by omega) (fun x hx => ?_)
    rcases List.mem_append.1 hx with hx | hx
    · exact h x hx
    · rw [List.mem_singleton.1 hx]; exact hg s hL
theorem shr_term : ∀ (f : Nat) (d : Int), Shr (RS.term f d)
  | 0, d => fun s => Nat.le_refl _
  | f + 1, d => fun s => by
    rw [RS.term]
    have h1 := RS.deep_len2 d s
    simp only
    split
    · exact h1
    · have h2 := shr_count (s.deep d).2
      split
      · simp only; omega
      · have h3 := shr_number (s.deep d).2.count.2
        have h4 := shr_many (s.deep d).2.count.2.number.2
        have h5 := (shr_loop (shr_term f (d + 1)) ((s.deep d).2.count.2.number.2.many).1.toNat [] ((s.deep d).2.count.2.number.2.many).2).1
        simp only; omega
theorem shr_term1 : Shr RS.term1 := shr_term 2049 1
theorem shr_div : Shr RS.div := by
  intro s
  have h1 := shr_place s
  have h2 := shr_term1 s.place.2
  have h3 := shr_term1 s.place.2.term1.2
  simp only [RS.div]; omega
theorem shr_stepsBy {g : RS → Sp × RS} (hg : Shr g) : Shr (RS.stepsBy g) := by
  intro s
  have h1 := shr_many s
  have h2 := (shr_loop hg s.many.1.toNat [] s.many.2).1
  simp only [RS.stepsBy]; omega
theorem shr_step : ∀ (f : Nat) (d : Int), Shr (RS.step f d)
  | 0, d => fun s => Nat.le_refl _
  | f + 1, d => fun s => by
    have ih := shr_step f (d + 1)
    rw [RS.step]
    have h1 := RS.deep_len2 d s
    simp only
    split
    · exact h1
    · generalize (s.deep d).2 = s1 at *
      have h2 := shr_count s1
      have h3 := shr_reps shr_place 6 [] s1.count.2
      generalize (reps RS.place 6 [] s1.count.2).2 = s3 at *
      have h4 := shr_term1 s3
      have h5 := shr_term1 s3.term1.2
      have h6 := shr_many s3.term1.2.term1.2
      generalize s3.term1.2.term1.2.many = q at *
      have h7 := (shr_loop shr_div q.1.toNat [] q.2).1
      have h8 := shr_reps (shr_stepsBy ih) 3 [] (loop RS.div q.1.toNat [] q.2).2
      simp only; omega
theorem small_zero : Sp.small .zero := ⟨by simp, trivial, trivial, trivial⟩
theorem small_stepsBy {g : RS → Sp × RS} (hs : Shr g) (hg : ∀ s : RS, s.b.length ≤ 3000 → (g s).1.small) (s : RS) (hl : s.b.length ≤ 3000) : Sp.smalls (RS.stepsBy g s).1 := by
  have h1 := shr_many s
  exact Sp.smalls_of (loop_all (L := 3000) hs hg s.many.1.toNat [] s.many.2 (by omega) (fun x hx => by simp at hx))
theorem small_step : ∀ (f : Nat) (d : Int) (s : RS), s.b.length ≤ 3000 → (RS.step f d s).1.small
  | 0, d, s, _ => small_zero
  | f + 1, d, s, hl => by
    have ih := small_step f (d + 1)
    have hs := shr_step f (d + 1)
    rw [RS.step]
    have h1 := RS.deep_len2 d s
    simp only
    split
    · exact small_zero
    · generalize (s.deep d).2 = s1 at *
      have h2 := shr_count s1
      have h3 := shr_reps shr_place 6 [] s1.count.2
      generalize (reps RS.place 6 [] s1.count.2) = s3 at *
      have h4 := shr_term1 s3.2
      have h5 := shr_term1 s3.2.term1.2
      have h6 := shr_many s3.2.term1.2.term1.2
      have h6b := RS.many_range s3.2.term1.2.term1.2
      generalize s3.2.term1.2.term1.2.many = q at *
      have h7 := shr_loop shr_div q.1.toNat [] q.2
      have hq := reps_all (L := 3000) (Q := Sp.smalls) (shr_stepsBy hs) (fun s hl => small_stepsBy hs ih s hl) 3 [] (loop RS.div q.1.toNat [] q.2).2 (by omega) (fun x hx => by simp at hx)
      generalize reps (RS.stepsBy (RS.step f (d + 1))) 3 [] (loop RS.div q.1.toNat [] q.2).2 = r at *
      have hget : ∀ i, Sp.smalls (r.1.getD i []) := by
        intro i
        rw [List.getD_eq_getElem?_getD]
        cases h : r.1[i]? with
        | none => trivial
        | some x => exact hq x (List.mem_of_getElem? h)
      refine ⟨?_, hget 0, hget 1, hget 2⟩
      have := h7.2
      simp at this
      omega
theorem shr_param : Shr RS.param := by
  intro s
  have h1 := shr_count s
  have h2 := shr_count s.count.2
  simp only [RS.param]; omega
theorem cert_small (s : RS) (hl : s.b.length ≤ 3000) : s.cert.1.name.size ≤ 3000 ∧ s.cert.1.params.length ≤ 3000 ∧ Sp.smalls s.cert.1.steps := by
  simp only [RS.cert]
  have h1 := shr_many s
  generalize s.many = n at *
  have h2 : (⟨n.2.b.drop n.1.toNat, n.2.bad⟩ : RS).b.length ≤ 3000 := by simp; omega
  generalize (⟨n.2.b.drop n.1.toNat, n.2.bad⟩ : RS) = s1 at *
  have h3 := shr_place s1
  have h4 := shr_many s1.place.2
  have h4b := RS.many_range s1.place.2
  generalize s1.place.2.many = m at *
  have h5 := shr_loop shr_param m.1.toNat [] m.2
  have h6 := shr_count (loop RS.param m.1.toNat [] m.2).2
  have h7 := shr_place (loop RS.param m.1.toNat [] m.2).2.count.2
  refine ⟨?_, ?_, small_stepsBy (shr_step 2049 1) (small_step 2049 1) _ (by omega)⟩
  · simp only [bytesOf, ByteArray.size, List.size_toArray, List.length_map, List.length_take]; omega
  · have := h5.2; simp at this; omega
end Go.Proofs.Ytolhahlnccekcaa
