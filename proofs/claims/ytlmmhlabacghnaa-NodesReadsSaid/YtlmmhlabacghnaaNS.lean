/- nodes, plain: how many nodes all held keys read together. -/
import Derived.Test.YtlmmhlabacghnaaNK
namespace Go.Proofs.Ytlmmhlabacghnaa.PH
open Go.RowKit Go.Proofs.YtlmmhlabacghnaaW.PrintWords Go.Proofs.YtlmmhlabacghnaaW.PrintLast Go.Proofs.YtlmmhlabacghnaaW.PrintMore
open Go.Proofs.Ytlmmhlabacghnaa.HM
set_option linter.unusedVariables false
set_option linter.unusedSimpArgs false

theorem split_uniq {x : Nat} : ∀ (A A' B B' : List Nat), A ++ x :: B = A' ++ x :: B' → (A ++ x :: B).Nodup → A = A'
  | [], [], _, _, _, _ => rfl
  | [], a :: A', B, B', e, hd => by
    simp only [List.nil_append, List.cons_append, List.cons.injEq] at e
    rw [List.nil_append, List.nodup_cons, e.2] at hd
    exact absurd (by simp) hd.1
  | a :: A, [], B, B', e, hd => by
    simp only [List.nil_append, List.cons_append, List.cons.injEq] at e
    rw [List.cons_append, List.nodup_cons, e.1] at hd
    exact absurd (by simp) hd.1
  | a :: A, b :: A', B, B', e, hd => by
    simp only [List.cons_append, List.cons.injEq] at e
    rw [e.1, split_uniq A A' B B' e.2 (List.nodup_cons.1 hd).2]
/-- How many nodes are read for the key of a node. -/
noncomputable def rdN (l : List Nd) (p : Nat) : Nat := (fndR l (nd l p).f0).2.toNat
theorem rdN_of {l : List Nd} {f : Nat} {C : Nat → List Nat} (h : Inv l f C) {p : Nat} (hp1 : p < l.length) (hn : (nd l p).f0.f0 ≠ 0) : ∃ A B, C (hp l.length (nd l p).f0) = A ++ p :: B ∧ rdN l p = 1 + A.length := by
  have hko := h.key hp1 hn
  obtain ⟨at_, r, hf, h1, h2, h3⟩ := h.find hko
  have hfn := fndR_yes h.small.1 hko hf
  rcases h3 with ⟨q, A, B, h4, h5, h6, h7, h8⟩ | ⟨_, h5⟩
  · have hpq : q = p := h.dist q p h4 hp1 (by rw [h5]; exact hn) h5
    subst hpq
    refine ⟨A, B, h7, ?_⟩
    unfold rdN
    rw [hfn, h8]
    simp only
    omega
  · exact absurd rfl (h5 p hp1)
theorem nodup_count (P : Nat → Bool) : ∀ (N : Nat) (s : List Nat), s.Nodup → (∀ x ∈ s, x < N ∧ P x = true) → s.length ≤ (List.range N).countP P
  | 0, [], _, _ => Nat.zero_le _
  | 0, x :: t, _, h => absurd (h x (by simp)).1 (Nat.not_lt_zero _)
  | N + 1, s, hd, h => by
    rw [List.range_succ, List.countP_append, List.countP_singleton]
    by_cases hN : N ∈ s
    · have h1 := nodup_count P N (s.erase N) (hd.erase N) (fun x hx => by
        have h2 := (hd.mem_erase_iff).1 hx
        have h3 := h x h2.2
        exact ⟨by omega, h3.2⟩)
      rw [List.length_erase_of_mem hN] at h1
      rw [if_pos (h N hN).2]
      omega
    · have h1 := nodup_count P N s hd (fun x hx => by
        have h3 := h x hx
        have : x ≠ N := fun e => hN (e ▸ hx)
        exact ⟨by omega, h3.2⟩)
      omega
/-- The nodes below i that hold keys; what they read together. -/
def heldN (l : List Nd) : Nat → Nat
  | 0 => 0
  | i + 1 => heldN l i + if (nd l i).f0.f0 = 0 then 0 else 1
noncomputable def sumN (l : List Nd) : Nat → Nat
  | 0 => 0
  | i + 1 => sumN l i + if (nd l i).f0.f0 = 0 then 0 else rdN l i
/-- q stands at or before p in one chain. -/
def ahd (l : List Nd) (rd : Nat → Nat) (q p : Nat) : Bool := decide ((nd l q).f0.f0 ≠ 0) && (decide ((nd l p).f0.f0 ≠ 0) && (decide (hp l.length (nd l q).f0 = hp l.length (nd l p).f0) && decide (rd q ≤ rd p)))
theorem ahd_iff {l : List Nd} {rd : Nat → Nat} {q p : Nat} : ahd l rd q p = true ↔ (nd l q).f0.f0 ≠ 0 ∧ (nd l p).f0.f0 ≠ 0 ∧ hp l.length (nd l q).f0 = hp l.length (nd l p).f0 ∧ rd q ≤ rd p := by
  simp [ahd]
/-- The pairs below i. -/
def below2 (R : Nat → Nat → Bool) (n : Nat) : Nat → Nat
  | 0 => 0
  | i + 1 => below2 R n i + (List.range n).countP (fun q => R q i)
theorem below2_succ (R : Nat → Nat → Bool) (n : Nat) : ∀ i, below2 R (n + 1) i = below2 R n i + (List.range i).countP (fun p => R n p)
  | 0 => rfl
  | i + 1 => by
    have h := below2_succ R n i
    show below2 R (n + 1) i + (List.range (n + 1)).countP (fun q => R q i) = below2 R n i + (List.range n).countP (fun q => R q i) + (List.range (i + 1)).countP (fun p => R n p)
    rw [h, List.range_succ, List.countP_append, List.range_succ, List.countP_append, List.countP_singleton, List.countP_singleton]
    omega
theorem count_two (P Q H : Nat → Bool) (h : ∀ p, P p = true → Q p = true → False) (hP : ∀ p, P p = true → H p = true) (hQ : ∀ p, Q p = true → H p = true) : ∀ n, (∀ p, p < n → True) → (List.range n).countP P + (List.range n).countP Q ≤ (List.range n).countP H
  | 0, _ => Nat.le_refl _
  | n + 1, _ => by
    have ih := count_two P Q H h hP hQ n (fun _ _ => trivial)
    rw [List.range_succ, List.countP_append, List.countP_append, List.countP_append, List.countP_singleton, List.countP_singleton, List.countP_singleton]
    by_cases h1 : P n = true
    · by_cases h2 : Q n = true
      · exact (h n h1 h2).elim
      · rw [if_pos h1, if_neg h2, if_pos (hP n h1)]; omega
    · rw [if_neg h1]
      by_cases h2 : Q n = true
      · rw [if_pos h2, if_pos (hQ n h2)]; omega
      · rw [if_neg h2]; omega
theorem heldN_count (l : List Nd) : ∀ i, (List.range i).countP (fun p => decide ((nd l p).f0.f0 ≠ 0)) = heldN l i
  | 0 => rfl
  | i + 1 => by
    rw [List.range_succ, List.countP_append, heldN_count l i, List.countP_singleton]
    show heldN l i + _ = heldN l i + _
    by_cases h : (nd l i).f0.f0 = 0
    · rw [if_pos h, if_neg (by simpa using h)]
    · rw [if_neg h, if_pos (by simpa using h)]
theorem heldN_le (l : List Nd) : ∀ i, heldN l i ≤ i
  | 0 => Nat.le_refl _
  | i + 1 => by
    have := heldN_le l i
    show heldN l i + _ ≤ i + 1
    split <;> omega
theorem pairs_le {l : List Nd} {rd : Nat → Nat} (h : ∀ p q, p ≠ q → (nd l p).f0.f0 ≠ 0 → (nd l q).f0.f0 ≠ 0 → p < l.length → q < l.length → hp l.length (nd l p).f0 = hp l.length (nd l q).f0 → rd p ≠ rd q) : ∀ i, i ≤ l.length → 2 * below2 (ahd l rd) i i ≤ heldN l i * (heldN l i + 1)
  | 0, _ => Nat.le_refl _
  | i + 1, hi => by
    have ih := pairs_le h i (by omega)
    have e : below2 (ahd l rd) (i + 1) (i + 1) = below2 (ahd l rd) i i + (List.range i).countP (fun p => ahd l rd i p) + ((List.range i).countP (fun q => ahd l rd q i) + if ahd l rd i i = true then 1 else 0) := by
      show below2 (ahd l rd) (i + 1) i + (List.range (i + 1)).countP (fun q => ahd l rd q i) = _
      rw [below2_succ, List.range_succ, List.countP_append, List.countP_singleton]
    by_cases hz : (nd l i).f0.f0 = 0
    · have z1 : ∀ p, ahd l rd i p = false := fun p => by simp [ahd, hz]
      have z2 : ∀ p, ahd l rd p i = false := fun p => by simp [ahd, hz]
      have c1 : (List.range i).countP (fun p => ahd l rd i p) = 0 := by simp [z1]
      have c2 : (List.range i).countP (fun q => ahd l rd q i) = 0 := by simp [z2]
      rw [e, c1, c2, if_neg (by rw [z1]; exact Bool.false_ne_true)]
      show _ ≤ (heldN l i + _) * (heldN l i + _ + 1)
      rw [if_pos hz]
      simpa using ih
    · have c1 : (List.range i).countP (fun p => decide (p < i) && ahd l rd i p) + (List.range i).countP (fun q => decide (q < i) && ahd l rd q i) ≤ (List.range i).countP (fun p => decide ((nd l p).f0.f0 ≠ 0)) := by
        refine count_two _ _ _ (fun p h1 h2 => ?_) (fun p h1 => ?_) (fun p h1 => ?_) i (fun _ _ => trivial)
        · rw [Bool.and_eq_true, decide_eq_true_iff] at h1 h2
          obtain ⟨a0, a1⟩ := h1
          obtain ⟨_, a2⟩ := h2
          obtain ⟨b1, b2, b3, b4⟩ := ahd_iff.1 a1
          obtain ⟨b5, b6, b7, b8⟩ := ahd_iff.1 a2
          exact h i p (by omega) b1 b2 (by omega) (by omega) b3 (by omega)
        · rw [Bool.and_eq_true] at h1
          exact decide_eq_true (ahd_iff.1 h1.2).2.1
        · rw [Bool.and_eq_true] at h1
          exact decide_eq_true (ahd_iff.1 h1.2).1
      have c2 : (List.range i).countP (fun p => decide (p < i) && ahd l rd i p) = (List.range i).countP (fun p => ahd l rd i p) := List.countP_congr (fun p hp1 => by
        have := List.mem_range.1 hp1
        simp [this])
      have c3 : (List.range i).countP (fun p => decide (p < i) && ahd l rd p i) = (List.range i).countP (fun p => ahd l rd p i) := List.countP_congr (fun p hp1 => by
        have := List.mem_range.1 hp1
        simp [this])
      rw [c2, c3, heldN_count] at c1
      rw [e]
      show _ ≤ (heldN l i + _) * (heldN l i + _ + 1)
      rw [if_neg hz]
      have c4 : (if ahd l rd i i = true then 1 else 0) ≤ 1 := by split <;> omega
      have c5 : (heldN l i + 1) * (heldN l i + 1 + 1) = heldN l i * (heldN l i + 1) + 2 * (heldN l i + 1) := by
        generalize heldN l i = H
        have h1 : (H + 1) * (H + 1 + 1) = (H + 1) * H + (H + 1) * 2 := Nat.mul_add (H + 1) H 2
        rw [h1, Nat.mul_comm (H + 1) H, Nat.mul_comm (H + 1) 2]
      omega
theorem sum_below {l : List Nd} {f : Nat} {C : Nat → List Nat} (h : Inv l f C) : ∀ i, i ≤ l.length → sumN l i ≤ below2 (ahd l (rdN l)) l.length i
  | 0, _ => Nat.le_refl _
  | i + 1, hi => by
    have ih := sum_below h i (by omega)
    show sumN l i + _ ≤ below2 (ahd l (rdN l)) l.length i + _
    by_cases hz : (nd l i).f0.f0 = 0
    · rw [if_pos hz]; omega
    · rw [if_neg hz]
      obtain ⟨A, B, hC, hr⟩ := rdN_of h (p := i) (by omega) hz
      have hnd := h.nodup (hp l.length (nd l i).f0)
      have hmm := h.mem (hp l.length (nd l i).f0)
      rw [hC] at hnd hmm
      have key := nodup_count (fun q => ahd l (rdN l) q i) l.length (A ++ [i]) (by
        have : (A ++ i :: B) = (A ++ [i]) ++ B := by simp
        rw [this] at hnd
        exact (List.nodup_append.1 hnd).1) (fun x hx => by
        have hx2 : x ∈ A ++ i :: B := by
          rcases List.mem_append.1 hx with e | e
          · exact List.mem_append.2 (.inl e)
          · exact List.mem_append.2 (.inr (by rw [List.mem_singleton.1 e]; simp))
        obtain ⟨a1, a2, a3⟩ := hmm x hx2
        refine ⟨a1, ahd_iff.2 ⟨a2, hz, a3, ?_⟩⟩
        rcases List.mem_append.1 hx with e | e
        · obtain ⟨X, Y, hXY⟩ := List.append_of_mem e
          obtain ⟨A2, B2, hC2, hr2⟩ := rdN_of h a1 a2
          rw [a3, hC, hXY] at hC2
          have e1 : (X ++ x :: Y) ++ i :: B = X ++ x :: (Y ++ i :: B) := by simp
          rw [e1] at hC2
          rw [hXY, e1] at hnd
          have hXA := split_uniq _ _ _ _ hC2 hnd
          rw [hr, hr2, ← hXA, hXY]
          simp only [List.length_append, List.length_cons]
          omega
        · rw [List.mem_singleton.1 e]; exact Nat.le_refl _)
      rw [List.length_append, List.length_singleton] at key
      omega
theorem InvE.sums {l : List Nd} {f : Nat} (h : InvE l f) : 2 * sumN l l.length ≤ heldN l l.length * (heldN l l.length + 1) := by
  rcases h.inv with rfl | ⟨C, hI⟩
  · exact Nat.le_refl _
  · refine Nat.le_trans (Nat.mul_le_mul_left 2 (sum_below hI l.length (Nat.le_refl _))) (pairs_le (fun p q hpq h1 h2 h3 h4 h5 => ?_) l.length (Nat.le_refl _))
    obtain ⟨A, B, hC, hr⟩ := rdN_of hI h3 h1
    obtain ⟨A2, B2, hC2, hr2⟩ := rdN_of hI h4 h2
    rw [hr, hr2]
    intro e
    rw [← h5, hC] at hC2
    have e2 := List.append_inj hC2 (by omega)
    simp only [List.cons.injEq] at e2
    exact hpq e2.2.1
end Go.Proofs.Ytlmmhlabacghnaa.PH
