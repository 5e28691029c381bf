/- The plain law of the hash, fifth part: HashSpreads. -/
import Derived.Test.YtlmmhlabacghnaaHM3
import Derived.Test.YtlmmhlabacghnaaHM4
import Derived.Test.YtlmmhlabacghnaaPHx10
namespace Go.Proofs.Ytlmmhlabacghnaa.HM
open Go.RowKit Go.Proofs.Ytlmmhlabacghnaa.PH Go.Proofs.YtlmmhlabacghnaaW.PrintWords Go.Proofs.YtlmmhlabacghnaaW.PrintLast
set_option linter.unusedVariables false
set_option linter.unusedSimpArgs false

theorem rdOf_set (l : List Bool) (p q : Int) (hp : 0 ≤ p ∧ p < l.length) (hq : 0 ≤ q ∧ q < l.length) : rdOf false (l.set p.toNat true) q = if p = q then true else rdOf false l q := by
  unfold rdOf
  rw [List.getD_eq_getElem?_getD, List.getD_eq_getElem?_getD, List.getElem?_set]
  by_cases h : p = q
  · subst h
    rw [if_pos rfl, if_pos rfl, if_pos (by omega)]
    rfl
  · rw [if_neg h, if_neg (by omega)]

theorem rowAt_range {first size : Int} (hp : Pow size) (i : Nat) : 0 ≤ rowAt first size i ∧ rowAt first size i < size := plc_range hp

/-- One round, whatever has been seen. -/
theorem spreads_round {first size : Int} (hp : Pow size) (k : Nat) (seen : List Bool) (n : Int) (i : Nat) (hi : i < size.toNat) (hs : (seen.length : Int) = size) (hn : 0 ≤ n ∧ n ≤ 70000) :
    trestlelaw04_HashSpreads.l1 (k + 2) size (rowTo first size size.toNat) seen n i =
      if rdOf false seen (rowAt first size i) = true then trestlelaw04_HashSpreads.l1 k size (rowTo first size size.toNat) (seen.set (rowAt first size i).toNat true) n (i + 1)
      else trestlelaw04_HashSpreads.l1 k size (rowTo first size size.toNat) (seen.set (rowAt first size i).toNat true) (n + 1) (i + 1) := by
  have hr := pow_range hp
  have hg := rowAt_range (first := first) hp i
  have hl := rowTo_length first size size.toNat
  show trestlelaw04_HashSpreads.l1 ((k + 1) + 1) _ _ _ _ _ = _
  simp only [trestlelaw04_HashSpreads.l1]
  rw [hl, rowTo_rd first size size.toNat i hi, if_pos (by omega), if_pos (by omega), if_neg (by omega), decide_eq_false (by omega)]
  simp only [trestlelaw04_HashSpreads.j6]
  rw [rowTo_rd first size size.toNat i hi, if_neg (by decide), if_pos (by omega), if_pos (by omega), if_pos hg.1, if_pos (by omega), w64_id (i + 1) (by omega) (by omega), w64_id (n + 1) (by omega) (by omega)]

theorem spreads_two {first size : Int} (hp : Pow size) (d : Nat) : ∀ (k i : Nat) (seen : List Bool) (n : Int), i ≤ size.toNat → size.toNat - i = d → 2 * d < k → (seen.length : Int) = size → size - 1 ≤ n → n + d ≤ 70000 →
    trestlelaw04_HashSpreads.l1 k size (rowTo first size size.toNat) seen n i = some true := by
  have hr := pow_range hp
  induction d with
  | zero =>
    intro k i seen n hi hd hk hs hn hm
    obtain ⟨k, rfl⟩ : ∃ m, k = m + 1 := ⟨k - 1, by omega⟩
    simp only [trestlelaw04_HashSpreads.l1]
    rw [rowTo_length, if_neg (by omega), w64_id (size - 1) (by omega) (by omega), decide_eq_true (by omega)]
  | succ d ih =>
    intro k i seen n hi hd hk hs hn hm
    obtain ⟨k, rfl⟩ : ∃ m, k = m + 2 := ⟨k - 2, by omega⟩
    rw [spreads_round hp k seen n i (by omega) hs (by omega)]
    split
    · exact ih k (i + 1) _ _ (by omega) (by omega) (by omega) (by simpa using hs) (by omega) (by omega)
    · exact ih k (i + 1) _ _ (by omega) (by omega) (by omega) (by simpa using hs) (by omega) (by omega)

theorem spreads_one {first size : Int} (hp : Pow size) (fresh : ∀ i j : Nat, j < i → (i : Int) < size - 1 → rowAt first size j ≠ rowAt first size i) (d : Nat) :
    ∀ (k i : Nat) (seen : List Bool), (i : Int) ≤ size - 1 → (size - 1).toNat - i = d → 2 * d + 2 < k → (seen.length : Int) = size →
    (∀ p : Int, 0 ≤ p → p < size → rdOf false seen p = true → ∃ j : Nat, j < i ∧ rowAt first size j = p) →
    trestlelaw04_HashSpreads.l1 k size (rowTo first size size.toNat) seen i i = some true := by
  have hr := pow_range hp
  induction d with
  | zero =>
    intro k i seen hi hd hk hs hinv
    exact spreads_two hp 1 k i seen i (by omega) (by omega) (by omega) hs (by omega) (by omega)
  | succ d ih =>
    intro k i seen hi hd hk hs hinv
    obtain ⟨k, rfl⟩ : ∃ m, k = m + 2 := ⟨k - 2, by omega⟩
    have hg := rowAt_range (first := first) hp i
    rw [spreads_round hp k seen i i (by omega) hs (by omega)]
    have hf : ¬ rdOf false seen (rowAt first size i) = true := by
      intro h
      obtain ⟨j, hj, he⟩ := hinv _ hg.1 hg.2 h
      exact fresh i j hj (by omega) he
    rw [if_neg hf]
    have := ih k (i + 1) (seen.set (rowAt first size i).toNat true) (by omega) (by omega) (by omega) (by simpa using hs) (by
      intro p h0 h1 h
      rw [rdOf_set seen _ _ ⟨hg.1, by omega⟩ ⟨h0, by omega⟩] at h
      by_cases e : rowAt first size i = p
      · exact ⟨i, by omega, e⟩
      · rw [if_neg e] at h
        obtain ⟨j, hj, he⟩ := hinv p h0 h1 h
        exact ⟨j, by omega, he⟩)
    exact this

theorem rdOf_replicate (n : Nat) (p : Int) : rdOf false (List.replicate n false) p = false := by
  unfold rdOf
  rw [List.getD_eq_getElem?_getD, List.getElem?_replicate]
  split <;> rfl

theorem row_fresh {first size : Int} (hp : Pow size) (h2 : 2 ≤ size) (hlo : -9223372036854775808 ≤ first) (hs : 0 ≤ first ∨ first ≤ -size) (hhi : first ≤ 9223372036854775807 - size) :
    ∀ i j : Nat, j < i → (i : Int) < size - 1 → rowAt first size j ≠ rowAt first size i := by
  intro i j hj hi
  have hr := pow_range hp
  unfold rowAt plc odd
  rw [if_pos rfl, if_pos rfl, if_neg (by omega), w64_id _ (by omega) (by omega), w64_id _ (by omega) (by omega), IntKind.wrap_u64, IntKind.wrap_u64]
  rcases hs with h | h
  · rw [show (first + (j : Int)) % 18446744073709551616 = first + j by omega, show (first + (i : Int)) % 18446744073709551616 = first + i by omega]
    have := mod_far (first + j) (size - 1) (i - j) (by omega) (by omega)
    rwa [show first + (j : Int) + ((i : Int) - j) = first + i by omega] at this
  · rw [show (first + (j : Int)) % 18446744073709551616 = first + j + 18446744073709551616 by omega, show (first + (i : Int)) % 18446744073709551616 = first + i + 18446744073709551616 by omega]
    have := mod_far (first + j + 18446744073709551616) (size - 1) (i - j) (by omega) (by omega)
    rwa [show first + (j : Int) + 18446744073709551616 + ((i : Int) - j) = first + i + 18446744073709551616 by omega] at this

theorem spreads_j3 {first size : Int} (hp : Pow size) (h2 : 2 ≤ size) (hmax : size ≤ 512) (hlo : -9223372036854775808 ≤ first) (hs : 0 ≤ first ∨ first ≤ -size) (hhi : first ≤ 9223372036854775807 - size) (k : Nat) (hk : 20001 < k) :
    trestlelaw04_HashSpreads.j3 k first size = some true := by
  obtain ⟨k, rfl⟩ : ∃ m, k = m + 1 := ⟨k - 1, by omega⟩
  simp only [trestlelaw04_HashSpreads.j3]
  rw [Row_eq first size size (by omega) k (by omega)]
  simp only [Option.bind_some]
  have e : rowOf first size size = (rowTo first size size.toNat, 0) := by
    unfold rowOf
    rw [if_pos ⟨by omega, by omega, hp⟩]
  rw [e]
  simp only
  rw [if_pos trivial, rowTo_length, show ((size.toNat : Int) != size) = false by rw [bne_eq_false_iff_eq]; omega]
  obtain ⟨k, rfl⟩ : ∃ m, k = m + 1 := ⟨k - 1, by omega⟩
  simp only [trestlelaw04_HashSpreads.j4]
  rw [if_neg (by decide), if_pos (by omega), if_pos (by omega)]
  have := spreads_one hp (row_fresh hp h2 hlo hs hhi) (size - 1).toNat k 0 (List.replicate size.toNat false) (by omega) (by omega) (by omega) (by simp; omega) (by
    intro p _ _ h
    rw [rdOf_replicate] at h
    cases h)
  exact this

theorem spreads_j1 (first : Int) (hf : -9223372036854775808 ≤ first ∧ first ≤ 9223372036854775807) (i : Nat) (hi : i ≤ 8) (k : Nat) (hk : 20003 < k) : trestlelaw04_HashSpreads.j1 k first (2 ^ (i + 1)) = some true := by
  have hp := pow_mk (i + 1) (by omega)
  have h2 : (2 : Int) ≤ 2 ^ (i + 1) := two_pow_le 1 (i + 1) (by omega)
  have h9 : (2 : Int) ^ (i + 1) ≤ 512 := two_pow_le (i + 1) 9 (by omega)
  generalize (2 : Int) ^ (i + 1) = z at hp h2 h9 ⊢
  obtain ⟨k, rfl⟩ : ∃ m, k = m + 1 := ⟨k - 1, by omega⟩
  have zero : ∀ k, 20001 < k → trestlelaw04_HashSpreads.j3 k 0 z = some true := fun k hk => spreads_j3 hp h2 h9 (by omega) (by omega) (by omega) k hk
  have two_t : trestlelaw04_HashSpreads.j2 k first z true = some true := by
    obtain ⟨k, rfl⟩ : ∃ m, k = m + 1 := ⟨k - 1, by omega⟩
    simp only [trestlelaw04_HashSpreads.j2]
    rw [if_pos trivial]
    exact zero k (by omega)
  have two_f : (0 ≤ first ∨ first ≤ -z) → first ≤ 9223372036854775807 - z → trestlelaw04_HashSpreads.j2 k first z false = some true := by
    intro a b
    obtain ⟨k, rfl⟩ : ∃ m, k = m + 1 := ⟨k - 1, by omega⟩
    simp only [trestlelaw04_HashSpreads.j2]
    rw [if_neg (by decide)]
    exact spreads_j3 hp h2 h9 (by omega) a b k (by omega)
  have last : (0 ≤ first ∨ first ≤ -z) → trestlelaw04_HashSpreads.j2 k first z (decide (first > wrap64 (9223372036854775807 - z))) = some true := by
    intro a
    rw [w64_id (9223372036854775807 - z) (by omega) (by omega)]
    by_cases b : first > 9223372036854775807 - z
    · rw [decide_eq_true b]
      exact two_t
    · rw [decide_eq_false b]
      exact two_f a (by omega)
  simp only [trestlelaw04_HashSpreads.j1]
  rw [w64_id (-z) (by omega) (by omega)]
  by_cases a : first < 0
  · rw [if_pos a]
    by_cases b : first > -z
    · rw [if_pos b]
      exact two_t
    · rw [if_neg b]
      exact last (by omega)
  · rw [if_neg a]
    exact last (by omega)

theorem spreads_l0 (first x1 : Int) (hf : -9223372036854775808 ≤ first ∧ first ≤ 9223372036854775807) (d : Nat) : ∀ (k i : Nat), i + d = 8 → d + 20004 < k → trestlelaw04_HashSpreads.l0 k first x1 (2 ^ (i + 1)) i = some true := by
  induction d with
  | zero =>
    intro k i hi hk
    obtain ⟨k, rfl⟩ : ∃ m, k = m + 1 := ⟨k - 1, by omega⟩
    have h := spreads_j1 first hf i (by omega) k (by omega)
    simp only [trestlelaw04_HashSpreads.l0]
    split
    · rw [if_neg (by obtain rfl : i = 8 := by omega
                     decide)]
      exact h
    · exact h
  | succ d ih =>
    intro k i hi hk
    obtain ⟨k, rfl⟩ : ∃ m, k = m + 1 := ⟨k - 1, by omega⟩
    have h := spreads_j1 first hf i (by omega) k (by omega)
    have r := pow_range (pow_mk (i + 1) (by omega))
    simp only [trestlelaw04_HashSpreads.l0]
    split
    · split
      · rw [w64_id _ (by omega) (by omega), ← two_pow_eq, w64_id (i + 1) (by omega) (by omega)]
        exact ih k (i + 1) (by omega) (by omega)
      · exact h
    · exact h

theorem hashSpreads (a0 a1 : Int) (h : (Lit.int .i64 a0).wf = true) : ∃ k, trestlelaw04_HashSpreads.f k a0 a1 = some true := by
  refine ⟨20020, ?_⟩
  unfold trestlelaw04_HashSpreads.f
  rw [fixed_ok]
  simp only [Option.bind_some]
  rw [if_pos trivial]
  exact spreads_l0 a0 a1 (wf_i64 h) 8 20020 0 (by omega) (by omega)

end Go.Proofs.Ytlmmhlabacghnaa.HM
