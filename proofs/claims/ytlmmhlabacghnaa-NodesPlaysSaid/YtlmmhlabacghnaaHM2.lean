/- The plain law of the hash, second part: sizes, main positions, Main of the program and of the reference are one. -/
import Derived.Test.YtlmmhlabacghnaaHM1
import Derived.Test.YtlmmhlabacghnaaPHx3
namespace Go.Proofs.Ytlmmhlabacghnaa.HM
open Go.RowKit Go.Proofs.Ytlmmhlabacghnaa.PH Go.Proofs.YtlmmhlabacghnaaW.PrintWords Go.Proofs.YtlmmhlabacghnaaW.PrintLast
set_option linter.unusedVariables false
set_option linter.unusedSimpArgs false

/-! ### sizes -/
theorem land_pred_ne (k n : Nat) (h1 : 2 ^ k < n) (h2 : n < 2 ^ (k + 1)) : n &&& (n - 1) ≠ 0 := by
  intro h
  have a : n.testBit k = true := by
    rw [Nat.testBit_eq_decide_div_mod_eq]
    have : n / 2 ^ k = 1 := by
      rw [Nat.pow_succ] at h2
      apply Nat.div_eq_of_lt_le <;> omega
    simp [this]
  have b : (n - 1).testBit k = true := by
    rw [Nat.testBit_eq_decide_div_mod_eq]
    have : (n - 1) / 2 ^ k = 1 := by
      rw [Nat.pow_succ] at h2
      apply Nat.div_eq_of_lt_le <;> omega
    simp [this]
  have c : (n &&& (n - 1)).testBit k = true := by rw [Nat.testBit_and, a, b]; rfl
  rw [h, Nat.zero_testBit] at c
  cases c

/-- The right sizes. -/
def Pow (a : Int) : Prop := a = 1 ∨ a = 2 ∨ a = 4 ∨ a = 8 ∨ a = 16 ∨ a = 32 ∨ a = 64 ∨ a = 128 ∨ a = 256 ∨ a = 512 ∨ a = 1024 ∨ a = 2048 ∨ a = 4096 ∨ a = 8192 ∨ a = 16384 ∨ a = 32768 ∨ a = 65536
instance (a : Int) : Decidable (Pow a) := by unfold Pow; exact inferInstance

theorem pow_range {a : Int} (h : Pow a) : 1 ≤ a ∧ a ≤ 65536 := by unfold Pow at h; omega
theorem pow_exp {a : Int} (h : Pow a) : ∃ i : Nat, i ≤ 16 ∧ a = 2 ^ i := by
  unfold Pow at h
  rcases h with h | h | h | h | h | h | h | h | h | h | h | h | h | h | h | h | h
  · exact ⟨0, by omega, by simpa using h⟩
  · exact ⟨1, by omega, by simpa using h⟩
  · exact ⟨2, by omega, by simpa using h⟩
  · exact ⟨3, by omega, by simpa using h⟩
  · exact ⟨4, by omega, by simpa using h⟩
  · exact ⟨5, by omega, by simpa using h⟩
  · exact ⟨6, by omega, by simpa using h⟩
  · exact ⟨7, by omega, by simpa using h⟩
  · exact ⟨8, by omega, by simpa using h⟩
  · exact ⟨9, by omega, by simpa using h⟩
  · exact ⟨10, by omega, by simpa using h⟩
  · exact ⟨11, by omega, by simpa using h⟩
  · exact ⟨12, by omega, by simpa using h⟩
  · exact ⟨13, by omega, by simpa using h⟩
  · exact ⟨14, by omega, by simpa using h⟩
  · exact ⟨15, by omega, by simpa using h⟩
  · exact ⟨16, by omega, by simpa using h⟩

theorem and_i64 (a b : Int) (h0 : 0 ≤ a) (h1 : a < 9223372036854775808) (h2 : 0 ≤ b) (h3 : b < 9223372036854775808) : Go.bits .and .i64 a b = ((a.toNat &&& b.toNat : Nat) : Int) := by
  have := (bits_nat .i64 63 (by decide) wraps_i64 a.toNat b.toNat (by omega) (by omega)).1
  rwa [Int.toNat_of_nonneg h0, Int.toNat_of_nonneg h2] at this
theorem or_i64 (a b : Int) (h0 : 0 ≤ a) (h1 : a < 9223372036854775808) (h2 : 0 ≤ b) (h3 : b < 9223372036854775808) : Go.bits .or .i64 a b = ((a.toNat ||| b.toNat : Nat) : Int) := by
  have := (bits_nat .i64 63 (by decide) wraps_i64 a.toNat b.toNat (by omega) (by omega)).2
  rwa [Int.toNat_of_nonneg h0, Int.toNat_of_nonneg h2] at this

theorem land_pow (n : Nat) (h0 : 1 ≤ n) (h1 : n ≤ 65536) : n &&& (n - 1) = 0 ↔ Pow n := by
  constructor
  · intro h
    have g : ∀ k, ¬ (2 ^ k < n ∧ n < 2 ^ (k + 1)) := fun k ⟨a, b⟩ => land_pred_ne k n a b h
    have g0 := g 0; have g1 := g 1; have g2 := g 2; have g3 := g 3; have g4 := g 4; have g5 := g 5; have g6 := g 6; have g7 := g 7
    have g8 := g 8; have g9 := g 9; have g10 := g 10; have g11 := g 11; have g12 := g 12; have g13 := g 13; have g14 := g 14; have g15 := g 15
    clear g h
    simp only [Nat.reducePow, Nat.reduceAdd] at g0 g1 g2 g3 g4 g5 g6 g7 g8 g9 g10 g11 g12 g13 g14 g15
    unfold Pow
    omega
  · intro h
    obtain ⟨i, hi, he⟩ := pow_exp h
    have hn : n = 2 ^ i := by exact_mod_cast he
    rw [hn, Nat.and_two_pow_sub_one_eq_mod]
    simp

theorem parts_eq (a : Int) (h : -9223372036854775808 ≤ a ∧ a ≤ 9223372036854775807) : hash_parts.f a = some (decide (Pow a)) := by
  unfold hash_parts.f
  by_cases h1 : a ≥ 1
  · rw [if_pos h1]
    by_cases h2 : a ≤ 65536
    · rw [if_pos h2, w64_id _ (by omega) (by omega), and_i64 _ _ (by omega) (by omega) (by omega) (by omega)]
      have := land_pow a.toNat (by omega) (by omega)
      rw [Int.toNat_of_nonneg (by omega)] at this
      rw [show (a - 1).toNat = a.toNat - 1 by omega]
      congr 1
      rw [Bool.eq_iff_iff]
      simp only [beq_iff_eq, decide_eq_true_eq]
      rw [← this]
      omega
    · rw [if_neg h2]
      congr 1
      symm
      rw [decide_eq_false_iff_not]
      intro hp
      have := pow_range hp
      omega
  · rw [if_neg h1]
    congr 1
    symm
    rw [decide_eq_false_iff_not]
    intro hp
    have := pow_range hp
    omega

theorem power_go (k : Nat) (a p q : Int) (h : p ≤ 65536) (h0 : 0 ≤ p) (hq : p * 2 = q) : trestleref04_Power.l0 (k + 1) a p = if p = a then some true else trestleref04_Power.l0 k a q := by
  simp only [trestleref04_Power.l0]
  rw [if_pos h, w64_id _ (by omega) (by omega), hq]
theorem power_end (k : Nat) (a : Int) : trestleref04_Power.l0 (k + 1) a 131072 = some false := by
  simp only [trestleref04_Power.l0]
  rw [if_neg (by decide)]

theorem power_open (k : Nat) (a : Int) : trestleref04_Power.l0 (k + 18) a 1 = (if (1 : Int) = a then some true else if (2 : Int) = a then some true else if (4 : Int) = a then some true else if (8 : Int) = a then some true else if (16 : Int) = a then some true else if (32 : Int) = a then some true else if (64 : Int) = a then some true else if (128 : Int) = a then some true else if (256 : Int) = a then some true else if (512 : Int) = a then some true else if (1024 : Int) = a then some true else if (2048 : Int) = a then some true else if (4096 : Int) = a then some true else if (8192 : Int) = a then some true else if (16384 : Int) = a then some true else if (32768 : Int) = a then some true else if (65536 : Int) = a then some true else some false) := by
  rw [power_go (k + 17) a 1 2 (by decide) (by decide) (by decide)]
  rw [power_go (k + 16) a 2 4 (by decide) (by decide) (by decide)]
  rw [power_go (k + 15) a 4 8 (by decide) (by decide) (by decide)]
  rw [power_go (k + 14) a 8 16 (by decide) (by decide) (by decide)]
  rw [power_go (k + 13) a 16 32 (by decide) (by decide) (by decide)]
  rw [power_go (k + 12) a 32 64 (by decide) (by decide) (by decide)]
  rw [power_go (k + 11) a 64 128 (by decide) (by decide) (by decide)]
  rw [power_go (k + 10) a 128 256 (by decide) (by decide) (by decide)]
  rw [power_go (k + 9) a 256 512 (by decide) (by decide) (by decide)]
  rw [power_go (k + 8) a 512 1024 (by decide) (by decide) (by decide)]
  rw [power_go (k + 7) a 1024 2048 (by decide) (by decide) (by decide)]
  rw [power_go (k + 6) a 2048 4096 (by decide) (by decide) (by decide)]
  rw [power_go (k + 5) a 4096 8192 (by decide) (by decide) (by decide)]
  rw [power_go (k + 4) a 8192 16384 (by decide) (by decide) (by decide)]
  rw [power_go (k + 3) a 16384 32768 (by decide) (by decide) (by decide)]
  rw [power_go (k + 2) a 32768 65536 (by decide) (by decide) (by decide)]
  rw [power_go (k + 1) a 65536 131072 (by decide) (by decide) (by decide)]
  rw [power_end k a]

theorem power_eq (a : Int) (k : Nat) (hk : 18 ≤ k) : trestleref04_Power.f k a = some (decide (Pow a)) := by
  obtain ⟨k, rfl⟩ : ∃ m, k = m + 18 := ⟨k - 18, by omega⟩
  show trestleref04_Power.l0 (k + 18) a 1 = _
  rw [power_open]
  by_cases h : Pow a
  · rw [decide_eq_true h]
    unfold Pow at h
    rcases h with h | h | h | h | h | h | h | h | h | h | h | h | h | h | h | h | h <;> subst h <;> rfl
  · rw [decide_eq_false h]
    unfold Pow at h
    repeat rw [if_neg (by omega)]


/-! ### main positions -/
/-- By what a number is divided. -/
def odd (a : Int) : Int := if a = 1 then 1 else a - 1
theorem odd_range {a : Int} (h : Pow a) : 1 ≤ odd a ∧ odd a ≤ 65535 ∧ odd a ≤ a := by
  have := pow_range h
  unfold odd
  split <;> omega
theorem or_one {a : Int} (h : Pow a) : Go.bits .or .i64 (wrap64 (a - 1)) 1 = odd a := by
  unfold Pow at h
  rcases h with h | h | h | h | h | h | h | h | h | h | h | h | h | h | h | h | h <;> subst h <;> decide +kernel
theorem and_pred {a : Int} (h : Pow a) (t : Int) (h0 : 0 ≤ t) (h1 : t < 9223372036854775808) : Go.bits .and .i64 t (wrap64 (a - 1)) = t % a := by
  have hr := pow_range h
  obtain ⟨i, hi, rfl⟩ := pow_exp h
  rw [w64_id _ (by omega) (by omega)]
  exact and_pow t i (by omega) h0 h1

/-- The main position of a key in form. -/
def plc (kd n : Int) (s : ByteArray) (a : Int) : Int :=
  if kd = 2 then IntKind.u64.wrap n % odd a else
  if kd = 3 then ofTo s s.size % a else
  if kd = 1 then n % a else
  IntKind.u64.wrap (IntKind.u64.wrap (4 * IntKind.u64.wrap n) + IntKind.u64.wrap kd) % odd a

theorem okB_facts {kd n : Int} {s : ByteArray} (h : okB kd n s = true) : (kd = 0 ∨ kd = 1 ∨ kd = 2 ∨ kd = 3 ∨ kd = 4 ∨ kd = 5 ∨ kd = 6) ∧ (kd = 1 → n = 0 ∨ n = 1) ∧ (kd = 3 → s.size ≤ 10000) ∧ (kd = 0 → n = 0) ∧ (kd = 3 → n = 0) ∧ (4 ≤ kd → 1 ≤ n) := by
  unfold okB at h
  split at h
  · rename_i e
    simp at h
    exact ⟨by omega, by omega, by omega, fun _ => h.1, by omega, by omega⟩
  split at h
  · rename_i e
    simp at h
    exact ⟨by omega, fun _ => h.1, by omega, by omega, by omega, by omega⟩
  split at h
  · exact ⟨by omega, by omega, by omega, by omega, by omega, by omega⟩
  split at h
  · simp at h
    exact ⟨by omega, by omega, fun _ => by omega, by omega, fun _ => h.1, by omega⟩
  split at h
  · simp at h
    exact ⟨by omega, by omega, by omega, by omega, by omega, fun _ => by omega⟩
  · cases h

theorem plc_range {kd n : Int} {s : ByteArray} {a : Int} (h : Pow a) : 0 ≤ plc kd n s a ∧ plc kd n s a < a := by
  have h1 := pow_range h
  have h2 := odd_range h
  have e : ∀ x : Int, 0 ≤ x % odd a ∧ x % odd a < a := fun x => ⟨Int.emod_nonneg _ (by omega), by have := Int.emod_lt_of_pos x (show 0 < odd a by omega); omega⟩
  have e2 : ∀ x : Int, 0 ≤ x % a ∧ x % a < a := fun x => ⟨Int.emod_nonneg _ (by omega), by have := Int.emod_lt_of_pos x (show 0 < a by omega); omega⟩
  unfold plc
  split
  · exact e _
  split
  · exact e2 _
  split
  · exact e2 _
  · exact e _

theorem u64_range (x : Int) : 0 ≤ IntKind.u64.wrap x ∧ IntKind.u64.wrap x < 18446744073709551616 := by rw [IntKind.wrap_u64]; omega

theorem tmod_u64 (x m : Int) (hm : 1 ≤ m ∧ m ≤ 65535) : wrap64 (Int.tmod (IntKind.u64.wrap x) (IntKind.u64.wrap m)) = IntKind.u64.wrap x % m := by
  have hx := u64_range x
  rw [u64_id m (by omega) (by omega), Int.tmod_eq_emod_of_nonneg hx.1]
  have h1 := Int.emod_nonneg (IntKind.u64.wrap x) (show m ≠ 0 by omega)
  have h2 := Int.emod_lt_of_pos (IntKind.u64.wrap x) (show 0 < m by omega)
  rw [w64_id _ (by omega) (by omega)]

theorem main_eq {kd n : Int} {s : ByteArray} {a : Int} (hp : Pow a) (hk : kd = 3 → s.size ≤ 10000) (hb : kd = 1 → n = 0 ∨ n = 1) : hash_main.f kd n s a = some (plc kd n s a) := by
  have ho := odd_range hp
  have hm : ¬ IntKind.u64.wrap (odd a) = 0 := by rw [u64_id _ (by omega) (by omega)]; omega
  unfold hash_main.f plc
  rw [or_one hp]
  by_cases h2 : kd = 2
  · rw [if_pos h2, if_pos h2, if_neg hm, tmod_u64 _ _ (by omega)]
  rw [if_neg h2, if_neg h2]
  by_cases h3 : kd = 3
  · rw [if_pos h3, if_pos h3, hashOf s (by have := hk h3; omega)]
    have hr := ofTo_range s s.size
    simp only [Option.bind_some]
    rw [and_pred hp _ hr.1 (by omega)]
  rw [if_neg h3, if_neg h3]
  by_cases h1 : kd = 1
  · have := hb h1
    rw [if_pos h1, if_pos h1, and_pred hp _ (by omega) (by omega)]
  rw [if_neg h1, if_neg h1, if_neg hm, tmod_u64 _ _ (by omega)]

theorem place_j0 {kd n : Int} {s : ByteArray} {a : Int} (hp : Pow a) (hk : kd = 3 → s.size ≤ 10000) (hb : kd = 1 → n = 0 ∨ n = 1) (k : Nat) (hs : 10001 < k) :
    trestleref04_Place.j0 k a (odd a) kd n s = some (plc kd n s a) := by
  obtain ⟨k, rfl⟩ : ∃ m, k = m + 1 := ⟨k - 1, by omega⟩
  have ho := odd_range hp
  have hr1 := pow_range hp
  have hm : ¬ IntKind.u64.wrap (odd a) = 0 := by rw [u64_id _ (by omega) (by omega)]; omega
  simp only [trestleref04_Place.j0]
  unfold plc
  by_cases h2 : kd = 2
  · rw [if_pos h2, if_pos h2, if_neg hm, tmod_u64 _ _ (by omega)]
  rw [if_neg h2, if_neg h2]
  by_cases h3 : kd = 3
  · have h4 := hk h3
    rw [if_pos h3, if_pos h3, refOf s (by omega) _ (by omega)]
    have hr := ofTo_range s s.size
    simp only [Option.bind_some]
    rw [if_neg (by omega), Int.tmod_eq_emod_of_nonneg hr.1]
  rw [if_neg h3, if_neg h3]
  by_cases h1 : kd = 1
  · have := hb h1
    rw [if_pos h1, if_pos h1, if_neg (by omega), Int.tmod_eq_emod_of_nonneg (by omega)]
  rw [if_neg h1, if_neg h1, if_neg hm, tmod_u64 _ _ (by omega), Int.mul_comm]

theorem place_eq {kd n : Int} {s : ByteArray} {a : Int} (hp : Pow a) (hk : kd = 3 → s.size ≤ 10000) (hb : kd = 1 → n = 0 ∨ n = 1) (k : Nat) (hs : 10001 < k) :
    trestleref04_Place.f k kd n s a = some (plc kd n s a) := by
  have hr := pow_range hp
  have h := place_j0 (n := n) hp hk hb k hs
  unfold trestleref04_Place.f
  by_cases h1 : a = 1
  · rw [if_pos h1]
    rw [show odd a = 1 from by unfold odd; rw [if_pos h1]] at h
    exact h
  · rw [if_neg h1, w64_id _ (by omega) (by omega)]
    rw [show odd a = a - 1 from by unfold odd; rw [if_neg h1]] at h
    exact h

/-- What Main answers. -/
def mainOf (kd n : Int) (s : ByteArray) (a : Int) : Int × Int :=
  if okB kd n s = true then (if Pow a then (if kd = 0 then (0, 9) else (plc kd n s a, 0)) else (0, 1)) else (0, 2)

theorem Main_eq {kd n : Int} {s : ByteArray} {a : Int} (ha : -9223372036854775808 ≤ a ∧ a ≤ 9223372036854775807) : hash_Main.f kd n s a = some (mainOf kd n s a) := by
  unfold hash_Main.f box_Check.f mainOf
  simp only [Option.bind_some]
  by_cases hok : okB kd n s = true
  · rw [if_pos hok, if_pos rfl, parts_eq a ha, if_pos hok]
    simp only [Option.bind_some]
    have hf := okB_facts hok
    by_cases hp : Pow a
    · rw [decide_eq_true hp, if_pos rfl, if_pos hp]
      by_cases h0 : kd = 0
      · rw [if_pos h0, if_pos h0]
      · rw [if_neg h0, if_neg h0, main_eq hp hf.2.2.1 hf.2.1]
        rfl
    · rw [decide_eq_false hp, if_neg (by decide), if_neg hp]
  · rw [if_neg hok, if_neg (by decide), if_neg hok]

theorem RMain_eq {kd n : Int} {s : ByteArray} {a : Int} (k : Nat) (hs : 10001 < k) : trestleref04_Main.f k kd n s a = some (mainOf kd n s a) := by
  unfold trestleref04_Main.f trestleref03_Check.f okN mainOf
  simp only [Option.bind_some]
  by_cases hok : okB kd n s = true
  · rw [if_pos hok, if_pos rfl, power_eq a k (by omega), if_pos hok]
    simp only [Option.bind_some]
    have hf := okB_facts hok
    by_cases hp : Pow a
    · rw [decide_eq_true hp, if_pos rfl, if_pos hp]
      by_cases h0 : kd = 0
      · rw [if_pos h0, if_pos h0]
      · rw [if_neg h0, if_neg h0, place_eq hp hf.2.2.1 hf.2.1 k hs]
        rfl
    · rw [decide_eq_false hp, if_neg (by decide), if_neg hp]
  · rw [if_neg hok, if_neg (by decide), if_neg hok]

theorem hashPlaces (kd n : Int) (s : ByteArray) (a : Int) (ha : -9223372036854775808 ≤ a ∧ a ≤ 9223372036854775807) : trestlelaw04_HashPlaces.f 10002 kd n s a = some true := by
  unfold trestlelaw04_HashPlaces.f
  rw [Main_eq ha, RMain_eq 10002 (by omega), fixed_ok]
  simp only [Option.bind_some]
  rw [if_pos trivial, if_pos trivial, if_pos trivial]
  by_cases h0 : (mainOf kd n s a).2 = 0
  · rw [if_pos h0]
    unfold mainOf at h0 ⊢
    split at h0
    · split at h0
      · rename_i hp
        have := plc_range (kd := kd) (n := n) (s := s) hp
        split at h0
        · cases h0
        · rename_i h1 h2
          rw [if_pos h1, if_pos hp, if_neg h2, if_pos this.1, decide_eq_true this.2]
      · cases h0
    · cases h0
  · rw [if_neg h0]

end Go.Proofs.Ytlmmhlabacghnaa.HM
