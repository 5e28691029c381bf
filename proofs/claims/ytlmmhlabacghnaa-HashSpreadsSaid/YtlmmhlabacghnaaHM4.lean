/- The plain law of the hash, fourth part: HashHalves and HashSame. -/
import Derived.Test.YtlmmhlabacghnaaHM2
import Derived.Test.YtlmmhlabacghnaaPHx5
import Derived.Test.YtlmmhlabacghnaaPHx6
namespace Go.Proofs.Ytlmmhlabacghnaa.HM
open Go.RowKit Go.Proofs.Ytlmmhlabacghnaa.PH Go.Proofs.YtlmmhlabacghnaaW.PrintWords Go.Proofs.YtlmmhlabacghnaaW.PrintLast
set_option linter.unusedVariables false
set_option linter.unusedSimpArgs false

theorem pow_mk (i : Nat) (h : i ≤ 16) : Pow (2 ^ i) := by
  unfold Pow
  match i, h with
  | 0, _ => decide
  | 1, _ => decide
  | 2, _ => decide
  | 3, _ => decide
  | 4, _ => decide
  | 5, _ => decide
  | 6, _ => decide
  | 7, _ => decide
  | 8, _ => decide
  | 9, _ => decide
  | 10, _ => decide
  | 11, _ => decide
  | 12, _ => decide
  | 13, _ => decide
  | 14, _ => decide
  | 15, _ => decide
  | 16, _ => decide
  | n + 17, h => omega

theorem two_pow_le (i j : Nat) (h : i ≤ j) : (2 : Int) ^ i ≤ 2 ^ j := by exact_mod_cast Nat.pow_le_pow_right (by decide) h
theorem two_pow_eq (i : Nat) : (2 : Int) ^ (i + 1) = 2 ^ i * 2 := Int.pow_succ 2 i

theorem mainOf_ok {kd n : Int} {s : ByteArray} {a : Int} (h : okB kd n s = true) (hp : Pow a) (h0 : kd ≠ 0) : mainOf kd n s a = (plc kd n s a, 0) := by
  unfold mainOf
  rw [if_pos h, if_pos hp, if_neg h0]

theorem okB_str {s : ByteArray} (h : s.size ≤ 10000) : okB 3 0 s = true := by
  unfold okB
  rw [if_neg (by decide), if_neg (by decide), if_neg (by decide), if_pos rfl]
  simp
  omega
theorem empty_list : (⟨#[]⟩ : ByteArray).toList = [] := by decide +kernel
theorem okB_int (n : Int) : okB 2 n (⟨#[]⟩ : ByteArray) = true := by
  unfold okB
  rw [if_neg (by decide), if_neg (by decide), if_pos rfl, empty_list]
  rfl
theorem okB_true : okB 1 1 (⟨#[]⟩ : ByteArray) = true := by
  unfold okB
  rw [if_neg (by decide), if_pos rfl, empty_list]
  rfl

theorem halves_j2 (s : ByteArray) (hs : s.size ≤ 10000) (i : Nat) (hi : i ≤ 15) (k : Nat) : trestlelaw04_HashHalves.j2 (k + 1) s (2 ^ (i + 1)) = some true := by
  have hp := pow_mk (i + 1) (by omega)
  have hq := pow_mk i (by omega)
  have r1 := pow_range hp
  have r2 := pow_range hq
  have e : wrap64 (Int.tdiv (2 ^ (i + 1)) 2) = 2 ^ i := by
    rw [Int.tdiv_eq_ediv_of_nonneg (by omega), two_pow_eq, Int.mul_ediv_cancel _ (by decide), w64_id _ (by omega) (by omega)]
  have d : (2 : Int) ^ i ∣ 2 ^ (i + 1) := ⟨2, two_pow_eq i⟩
  have hge : (2 : Int) ≤ 2 ^ (i + 1) := by rw [two_pow_eq]; omega
  have p1 := plc_range (kd := 3) (n := 0) (s := s) hp
  simp only [trestlelaw04_HashHalves.j2, trestleref03_S.f, trestleref03_B.f]
  simp only [Option.bind_some, if_true]
  rw [e, Main_eq (by omega), Main_eq (by omega)]
  simp only [Option.bind_some]
  rw [Main_eq (by omega)]
  simp only [Option.bind_some]
  rw [mainOf_ok (okB_str hs) hp (by decide), mainOf_ok (okB_str hs) hq (by decide), mainOf_ok okB_true hp (by decide)]
  simp only
  have hone : plc 1 1 (⟨#[]⟩ : ByteArray) (2 ^ (i + 1)) = 1 := by
    unfold plc
    rw [if_neg (by decide), if_neg (by decide), if_pos rfl]
    exact Int.emod_eq_of_lt (by decide) (by omega)
  have hhalf : plc 3 0 s (2 ^ i) = Int.tmod (plc 3 0 s (2 ^ (i + 1))) (2 ^ i) := by
    rw [Int.tmod_eq_emod_of_nonneg p1.1]
    unfold plc
    rw [if_neg (by decide), if_pos rfl, if_neg (by decide), if_pos rfl, Int.emod_emod_of_dvd _ d]
  rw [if_pos trivial, if_pos trivial, if_pos trivial, if_neg (by omega), if_pos hhalf, if_pos hone, decide_eq_true p1.2]

theorem halves_l0 (s : ByteArray) (hs : s.size ≤ 10000) (x1 : Int) (d : Nat) : ∀ (k i : Nat), i + d = 15 → d + 2 < k → trestlelaw04_HashHalves.l0 k s x1 (2 ^ (i + 1)) i = some true := by
  induction d with
  | zero =>
    intro k i hi hk
    obtain ⟨k, rfl⟩ : ∃ m, k = m + 1 := ⟨k - 1, by omega⟩
    simp only [trestlelaw04_HashHalves.l0]
    obtain ⟨k, rfl⟩ : ∃ m, k = m + 1 := ⟨k - 1, by omega⟩
    have h := halves_j2 s hs i (by omega) k
    split
    · rw [if_neg (by obtain rfl : i = 15 := by omega
                     decide)]
      exact h
    · exact h
  | succ d ih =>
    intro k i hi hk
    obtain ⟨k, rfl⟩ : ∃ m, k = m + 1 := ⟨k - 1, by omega⟩
    simp only [trestlelaw04_HashHalves.l0]
    obtain ⟨k, rfl⟩ : ∃ m, k = m + 1 := ⟨k - 1, by omega⟩
    have h := halves_j2 s hs i (by omega) k
    have r := pow_range (pow_mk (i + 1) (by omega))
    split
    · split
      · rw [w64_id _ (by omega) (by omega), ← two_pow_eq, w64_id (i + 1) (by omega) (by omega)]
        exact ih (k + 1) (i + 1) (by omega) (by omega)
      · exact h
    · exact h

theorem hashHalves (s : ByteArray) (a1 : Int) : ∃ k, trestlelaw04_HashHalves.f k s a1 = some true := by
  refine ⟨20, ?_⟩
  unfold trestlelaw04_HashHalves.f
  rw [fixed_ok]
  simp only [Option.bind_some]
  rw [if_pos trivial]
  by_cases h : (s.size : Int) > 10000
  · rw [if_pos h, if_pos (by decide), if_pos (by omega)]
    show trestlelaw04_HashHalves.j0 (19 + 1) _ _ = _
    simp only [trestlelaw04_HashHalves.j0]
    exact halves_l0 _ (by simp; omega) a1 15 19 0 (by omega) (by omega)
  · rw [if_neg h]
    show trestlelaw04_HashHalves.j0 (19 + 1) _ _ = _
    simp only [trestlelaw04_HashHalves.j0]
    exact halves_l0 _ (by omega) a1 15 19 0 (by omega) (by omega)

/-! ### HashSame -/
theorem plc_int (n : Int) (s : ByteArray) (a : Int) (h : 0 ≤ n ∧ n < 9223372036854775808) (ha : 2 ≤ a) : plc 2 n s a = n % (a - 1) := by
  unfold plc odd
  rw [if_pos rfl, if_neg (by omega), u64_id _ (by omega) (by omega)]

theorem mod_far (n m j : Int) (h0 : 1 ≤ j) (h1 : j < m) : n % m ≠ (n + j) % m := by
  intro h
  have a := Int.emod_add_mul_ediv n m
  have b := Int.emod_add_mul_ediv (n + j) m
  rw [h] at a
  have e : m * ((n + j) / m - n / m) = j := by rw [Int.mul_sub]; omega
  have c1 : (n + j) / m - n / m ≤ 0 ∨ 1 ≤ (n + j) / m - n / m := by omega
  rcases c1 with c | c
  · have := Int.mul_le_mul_of_nonneg_left c (show 0 ≤ m by omega)
    omega
  · have := Int.mul_le_mul_of_nonneg_left c (show 0 ≤ m by omega)
    omega

theorem same_j1 (x0 : Int) (i : Nat) (hi : i ≤ 14) (k : Nat) : trestlelaw04_HashSame.j1 (k + 1) x0 (2 ^ (i + 2)) = some true := by
  have hp := pow_mk (i + 2) (by omega)
  have r1 := pow_range hp
  have hge : (4 : Int) ≤ 2 ^ (i + 2) := two_pow_le 2 (i + 2) (by omega)
  have hu := u64_range x0
  simp only [trestlelaw04_HashSame.j1, trestleref03_I.f]
  rw [Int.tmod_eq_emod_of_nonneg hu.1]
  have m0 := Int.emod_nonneg (IntKind.u64.wrap x0) (show (1152921504606846976 : Int) ≠ 0 by decide)
  have m1 := Int.emod_lt_of_pos (IntKind.u64.wrap x0) (show (0 : Int) < 1152921504606846976 by decide)
  generalize IntKind.u64.wrap x0 % 1152921504606846976 = n at m0 m1 ⊢
  generalize (2 : Int) ^ (i + 2) = z at hp r1 hge ⊢
  simp only [Option.bind_some]
  rw [w64_id n (by omega) (by omega), w64_id (n + 1) (by omega) (by omega), w64_id (n + z) (by omega) (by omega), w64_id (n + z - 1) (by omega) (by omega), w64_id (n + z - 2) (by omega) (by omega)]
  rw [Main_eq (by omega), Main_eq (by omega)]
  simp only [Option.bind_some]
  rw [Main_eq (by omega), Main_eq (by omega)]
  simp only [Option.bind_some]
  rw [mainOf_ok (okB_int _) hp (by decide), mainOf_ok (okB_int _) hp (by decide), mainOf_ok (okB_int _) hp (by decide), mainOf_ok (okB_int _) hp (by decide)]
  simp only
  rw [if_pos trivial, if_pos trivial, if_pos trivial, if_pos trivial]
  rw [plc_int n _ z (by omega) (by omega), plc_int (n + z - 1) _ z (by omega) (by omega), plc_int (n + 1) _ z (by omega) (by omega), plc_int (n + z - 2) _ z (by omega) (by omega)]
  rw [if_pos (by rw [show n + z - 1 = n + (z - 1) by omega, Int.add_emod_right])]
  rw [if_neg (mod_far n (z - 1) 1 (by omega) (by omega))]
  congr 1
  rw [bne_iff_ne]
  have := mod_far n (z - 1) (z - 2) (by omega) (by omega)
  rwa [show n + (z - 2) = n + z - 2 by omega] at this

theorem same_l (x0 x1 : Int) (d : Nat) : ∀ (k i : Nat), i + d = 14 → d + 2 < k → trestlelaw04_HashSame.l0 k x0 x1 (2 ^ (i + 2)) i = some true := by
  induction d with
  | zero =>
    intro k i hi hk
    obtain ⟨k, rfl⟩ : ∃ m, k = m + 1 := ⟨k - 1, by omega⟩
    simp only [trestlelaw04_HashSame.l0]
    obtain ⟨k, rfl⟩ : ∃ m, k = m + 1 := ⟨k - 1, by omega⟩
    have h := same_j1 x0 i (by omega) k
    split
    · rw [if_neg (by obtain rfl : i = 14 := by omega
                     decide)]
      exact h
    · exact h
  | succ d ih =>
    intro k i hi hk
    obtain ⟨k, rfl⟩ : ∃ m, k = m + 1 := ⟨k - 1, by omega⟩
    simp only [trestlelaw04_HashSame.l0]
    obtain ⟨k, rfl⟩ : ∃ m, k = m + 1 := ⟨k - 1, by omega⟩
    have h := same_j1 x0 i (by omega) k
    have r := pow_range (pow_mk (i + 2) (by omega))
    split
    · split
      · rw [w64_id _ (by omega) (by omega), ← two_pow_eq, w64_id (i + 1) (by omega) (by omega)]
        exact ih (k + 1) (i + 1) (by omega) (by omega)
      · exact h
    · exact h

theorem hashSame (a0 a1 : Int) : ∃ k, trestlelaw04_HashSame.f k a0 a1 = some true := by
  refine ⟨20, ?_⟩
  unfold trestlelaw04_HashSame.f
  rw [fixed_ok]
  simp only [Option.bind_some]
  rw [if_pos trivial]
  exact same_l a0 a1 14 20 0 (by omega) (by omega)

end Go.Proofs.Ytlmmhlabacghnaa.HM
