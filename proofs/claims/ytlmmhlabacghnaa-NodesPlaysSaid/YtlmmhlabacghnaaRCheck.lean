/- What the reference's Check (trestleref03) answers for every value: the same as box.Check. -/
import Derived.Test.YtlmmhlabacghnaaBox
namespace Go.Proofs.Ytlmmhlabacghnaa.PH
open Go.RowKit Go.Proofs.YtlmmhlabacghnaaW.PrintWords
set_option linter.unusedVariables false
set_option linter.unusedSimpArgs false

/-- Its number. -/
def okN (k n : Int) (s : ByteArray) : Int := if okB k n s = true then 0 else 2

set_option maxHeartbeats 4000000 in
set_option maxRecDepth 100000 in
theorem rcheck_0 (n : Int) (s : ByteArray) (w : World) :
    Calls Try.prog 50 #[.agg #[.int .i64 0, .int .i64 n, .string s]] w fun e w' => e = .returned (.int .i64 (okN 0 n s)) ∧ Below w.heap.size w w' := by
  rcases (show n < 0 ∨ n = 0 ∨ n = 1 ∨ 1 < n from by omega) with hc | hc | hc | hc
  · have f0 : decide (0 ≤ n) = false := by simp; omega
    have f1 : decide (n ≤ 1) = true := by simp; omega
    have f2 : decide (0 < n) = false := by simp; omega
    have f3 : (n == 0) = false := by simp; omega
    have f4 : (n == 1) = false := by simp; omega
    have f5 : decide (1 ≤ n) = false := by simp; omega
    by_cases hs : s.toList = []
    · obtain ⟨s0, s1⟩ := emp_t hs; clear hs
      obtain ⟨b, hq⟩ : ∃ b, okN 0 n s = b := ⟨_, rfl⟩
      rw [hq]
      simp [okN, okB, s0, s1, f3, f4, f5, of_decide_eq_false f5] at hq
      subst hq
      clear hc
      go_enter Try.func50, Try.ntmps50
      go_wp2
      go_ret
      exact ⟨rfl, below_one0 _ _⟩
    · obtain ⟨s0, s1⟩ := emp_f hs; clear hs
      obtain ⟨b, hq⟩ : ∃ b, okN 0 n s = b := ⟨_, rfl⟩
      rw [hq]
      simp [okN, okB, s0, s1, f3, f4, f5, of_decide_eq_false f5] at hq
      subst hq
      clear hc
      go_enter Try.func50, Try.ntmps50
      go_wp2
      go_ret
      exact ⟨rfl, below_one0 _ _⟩
  · have f0 : decide (0 ≤ n) = true := by simp; omega
    have f1 : decide (n ≤ 1) = true := by simp; omega
    have f2 : decide (0 < n) = false := by simp; omega
    have f3 : (n == 0) = true := by simp; omega
    have f4 : (n == 1) = false := by simp; omega
    have f5 : decide (1 ≤ n) = false := by simp; omega
    by_cases hs : s.toList = []
    · obtain ⟨s0, s1⟩ := emp_t hs; clear hs
      obtain ⟨b, hq⟩ : ∃ b, okN 0 n s = b := ⟨_, rfl⟩
      rw [hq]
      simp [okN, okB, s0, s1, f3, f4, f5, of_decide_eq_false f5] at hq
      subst hq
      clear hc
      go_enter Try.func50, Try.ntmps50
      go_wp2
      go_ret
      exact ⟨rfl, below_one0 _ _⟩
    · obtain ⟨s0, s1⟩ := emp_f hs; clear hs
      obtain ⟨b, hq⟩ : ∃ b, okN 0 n s = b := ⟨_, rfl⟩
      rw [hq]
      simp [okN, okB, s0, s1, f3, f4, f5, of_decide_eq_false f5] at hq
      subst hq
      clear hc
      go_enter Try.func50, Try.ntmps50
      go_wp2
      go_ret
      exact ⟨rfl, below_one0 _ _⟩
  · have f0 : decide (0 ≤ n) = true := by simp; omega
    have f1 : decide (n ≤ 1) = true := by simp; omega
    have f2 : decide (0 < n) = true := by simp; omega
    have f3 : (n == 0) = false := by simp; omega
    have f4 : (n == 1) = true := by simp; omega
    have f5 : decide (1 ≤ n) = true := by simp; omega
    by_cases hs : s.toList = []
    · obtain ⟨s0, s1⟩ := emp_t hs; clear hs
      obtain ⟨b, hq⟩ : ∃ b, okN 0 n s = b := ⟨_, rfl⟩
      rw [hq]
      simp [okN, okB, s0, s1, f3, f4, f5, of_decide_eq_true f5] at hq
      subst hq
      clear hc
      go_enter Try.func50, Try.ntmps50
      go_wp2
      go_ret
      exact ⟨rfl, below_one0 _ _⟩
    · obtain ⟨s0, s1⟩ := emp_f hs; clear hs
      obtain ⟨b, hq⟩ : ∃ b, okN 0 n s = b := ⟨_, rfl⟩
      rw [hq]
      simp [okN, okB, s0, s1, f3, f4, f5, of_decide_eq_true f5] at hq
      subst hq
      clear hc
      go_enter Try.func50, Try.ntmps50
      go_wp2
      go_ret
      exact ⟨rfl, below_one0 _ _⟩
  · have f0 : decide (0 ≤ n) = true := by simp; omega
    have f1 : decide (n ≤ 1) = false := by simp; omega
    have f2 : decide (0 < n) = true := by simp; omega
    have f3 : (n == 0) = false := by simp; omega
    have f4 : (n == 1) = false := by simp; omega
    have f5 : decide (1 ≤ n) = true := by simp; omega
    by_cases hs : s.toList = []
    · obtain ⟨s0, s1⟩ := emp_t hs; clear hs
      obtain ⟨b, hq⟩ : ∃ b, okN 0 n s = b := ⟨_, rfl⟩
      rw [hq]
      simp [okN, okB, s0, s1, f3, f4, f5, of_decide_eq_true f5] at hq
      subst hq
      clear hc
      go_enter Try.func50, Try.ntmps50
      go_wp2
      go_ret
      exact ⟨rfl, below_one0 _ _⟩
    · obtain ⟨s0, s1⟩ := emp_f hs; clear hs
      obtain ⟨b, hq⟩ : ∃ b, okN 0 n s = b := ⟨_, rfl⟩
      rw [hq]
      simp [okN, okB, s0, s1, f3, f4, f5, of_decide_eq_true f5] at hq
      subst hq
      clear hc
      go_enter Try.func50, Try.ntmps50
      go_wp2
      go_ret
      exact ⟨rfl, below_one0 _ _⟩

set_option maxHeartbeats 4000000 in
set_option maxRecDepth 100000 in
theorem rcheck_1 (n : Int) (s : ByteArray) (w : World) :
    Calls Try.prog 50 #[.agg #[.int .i64 1, .int .i64 n, .string s]] w fun e w' => e = .returned (.int .i64 (okN 1 n s)) ∧ Below w.heap.size w w' := by
  rcases (show n < 0 ∨ n = 0 ∨ n = 1 ∨ 1 < n from by omega) with hc | hc | hc | hc
  · have f0 : decide (0 ≤ n) = false := by simp; omega
    have f1 : decide (n ≤ 1) = true := by simp; omega
    have f2 : decide (0 < n) = false := by simp; omega
    have f3 : (n == 0) = false := by simp; omega
    have f4 : (n == 1) = false := by simp; omega
    have f5 : decide (1 ≤ n) = false := by simp; omega
    by_cases hs : s.toList = []
    · obtain ⟨s0, s1⟩ := emp_t hs; clear hs
      obtain ⟨b, hq⟩ : ∃ b, okN 1 n s = b := ⟨_, rfl⟩
      rw [hq]
      simp [okN, okB, s0, s1, f3, f4, f5, of_decide_eq_false f5] at hq
      subst hq
      clear hc
      go_enter Try.func50, Try.ntmps50
      go_wp2
      go_ret
      exact ⟨rfl, below_one0 _ _⟩
    · obtain ⟨s0, s1⟩ := emp_f hs; clear hs
      obtain ⟨b, hq⟩ : ∃ b, okN 1 n s = b := ⟨_, rfl⟩
      rw [hq]
      simp [okN, okB, s0, s1, f3, f4, f5, of_decide_eq_false f5] at hq
      subst hq
      clear hc
      go_enter Try.func50, Try.ntmps50
      go_wp2
      go_ret
      exact ⟨rfl, below_one0 _ _⟩
  · have f0 : decide (0 ≤ n) = true := by simp; omega
    have f1 : decide (n ≤ 1) = true := by simp; omega
    have f2 : decide (0 < n) = false := by simp; omega
    have f3 : (n == 0) = true := by simp; omega
    have f4 : (n == 1) = false := by simp; omega
    have f5 : decide (1 ≤ n) = false := by simp; omega
    by_cases hs : s.toList = []
    · obtain ⟨s0, s1⟩ := emp_t hs; clear hs
      obtain ⟨b, hq⟩ : ∃ b, okN 1 n s = b := ⟨_, rfl⟩
      rw [hq]
      simp [okN, okB, s0, s1, f3, f4, f5, of_decide_eq_false f5] at hq
      subst hq
      clear hc
      go_enter Try.func50, Try.ntmps50
      go_wp2
      go_ret
      exact ⟨rfl, below_one0 _ _⟩
    · obtain ⟨s0, s1⟩ := emp_f hs; clear hs
      obtain ⟨b, hq⟩ : ∃ b, okN 1 n s = b := ⟨_, rfl⟩
      rw [hq]
      simp [okN, okB, s0, s1, f3, f4, f5, of_decide_eq_false f5] at hq
      subst hq
      clear hc
      go_enter Try.func50, Try.ntmps50
      go_wp2
      go_ret
      exact ⟨rfl, below_one0 _ _⟩
  · have f0 : decide (0 ≤ n) = true := by simp; omega
    have f1 : decide (n ≤ 1) = true := by simp; omega
    have f2 : decide (0 < n) = true := by simp; omega
    have f3 : (n == 0) = false := by simp; omega
    have f4 : (n == 1) = true := by simp; omega
    have f5 : decide (1 ≤ n) = true := by simp; omega
    by_cases hs : s.toList = []
    · obtain ⟨s0, s1⟩ := emp_t hs; clear hs
      obtain ⟨b, hq⟩ : ∃ b, okN 1 n s = b := ⟨_, rfl⟩
      rw [hq]
      simp [okN, okB, s0, s1, f3, f4, f5, of_decide_eq_true f5] at hq
      subst hq
      clear hc
      go_enter Try.func50, Try.ntmps50
      go_wp2
      go_ret
      exact ⟨rfl, below_one0 _ _⟩
    · obtain ⟨s0, s1⟩ := emp_f hs; clear hs
      obtain ⟨b, hq⟩ : ∃ b, okN 1 n s = b := ⟨_, rfl⟩
      rw [hq]
      simp [okN, okB, s0, s1, f3, f4, f5, of_decide_eq_true f5] at hq
      subst hq
      clear hc
      go_enter Try.func50, Try.ntmps50
      go_wp2
      go_ret
      exact ⟨rfl, below_one0 _ _⟩
  · have f0 : decide (0 ≤ n) = true := by simp; omega
    have f1 : decide (n ≤ 1) = false := by simp; omega
    have f2 : decide (0 < n) = true := by simp; omega
    have f3 : (n == 0) = false := by simp; omega
    have f4 : (n == 1) = false := by simp; omega
    have f5 : decide (1 ≤ n) = true := by simp; omega
    by_cases hs : s.toList = []
    · obtain ⟨s0, s1⟩ := emp_t hs; clear hs
      obtain ⟨b, hq⟩ : ∃ b, okN 1 n s = b := ⟨_, rfl⟩
      rw [hq]
      simp [okN, okB, s0, s1, f3, f4, f5, of_decide_eq_true f5] at hq
      subst hq
      clear hc
      go_enter Try.func50, Try.ntmps50
      go_wp2
      go_ret
      exact ⟨rfl, below_one0 _ _⟩
    · obtain ⟨s0, s1⟩ := emp_f hs; clear hs
      obtain ⟨b, hq⟩ : ∃ b, okN 1 n s = b := ⟨_, rfl⟩
      rw [hq]
      simp [okN, okB, s0, s1, f3, f4, f5, of_decide_eq_true f5] at hq
      subst hq
      clear hc
      go_enter Try.func50, Try.ntmps50
      go_wp2
      go_ret
      exact ⟨rfl, below_one0 _ _⟩

set_option maxHeartbeats 4000000 in
set_option maxRecDepth 100000 in
theorem rcheck_2 (n : Int) (s : ByteArray) (w : World) :
    Calls Try.prog 50 #[.agg #[.int .i64 2, .int .i64 n, .string s]] w fun e w' => e = .returned (.int .i64 (okN 2 n s)) ∧ Below w.heap.size w w' := by
  by_cases hs : s.toList = []
  · obtain ⟨s0, s1⟩ := emp_t hs; clear hs
    obtain ⟨b, hq⟩ : ∃ b, okN 2 n s = b := ⟨_, rfl⟩
    rw [hq]
    simp [okN, okB, s0, s1] at hq
    subst hq
    go_enter Try.func50, Try.ntmps50
    go_wp2
    go_ret
    exact ⟨rfl, below_one0 _ _⟩
  · obtain ⟨s0, s1⟩ := emp_f hs; clear hs
    obtain ⟨b, hq⟩ : ∃ b, okN 2 n s = b := ⟨_, rfl⟩
    rw [hq]
    simp [okN, okB, s0, s1] at hq
    subst hq
    go_enter Try.func50, Try.ntmps50
    go_wp2
    go_ret
    exact ⟨rfl, below_one0 _ _⟩

set_option maxHeartbeats 4000000 in
set_option maxRecDepth 100000 in
theorem rcheck_3 (n : Int) (s : ByteArray) (w : World) :
    Calls Try.prog 50 #[.agg #[.int .i64 3, .int .i64 n, .string s]] w fun e w' => e = .returned (.int .i64 (okN 3 n s)) ∧ Below w.heap.size w w' := by
  rcases (show n < 0 ∨ n = 0 ∨ n = 1 ∨ 1 < n from by omega) with hc | hc | hc | hc
  · have f0 : decide (0 ≤ n) = false := by simp; omega
    have f1 : decide (n ≤ 1) = true := by simp; omega
    have f2 : decide (0 < n) = false := by simp; omega
    have f3 : (n == 0) = false := by simp; omega
    have f4 : (n == 1) = false := by simp; omega
    have f5 : decide (1 ≤ n) = false := by simp; omega
    by_cases hz : (s.size : Int) ≤ 10000
    · have z1 : decide ((s.size : Int) ≤ 10000) = true := decide_eq_true hz; clear hz
      obtain ⟨b, hq⟩ : ∃ b, okN 3 n s = b := ⟨_, rfl⟩
      rw [hq]
      simp [okN, okB, z1, of_decide_eq_true z1, f3, f4, f5, of_decide_eq_false f5] at hq
      subst hq
      clear hc
      go_enter Try.func50, Try.ntmps50
      go_wp2
      go_ret
      exact ⟨rfl, below_one0 _ _⟩
    · have z1 : decide ((s.size : Int) ≤ 10000) = false := decide_eq_false hz; clear hz
      obtain ⟨b, hq⟩ : ∃ b, okN 3 n s = b := ⟨_, rfl⟩
      rw [hq]
      simp [okN, okB, z1, of_decide_eq_false z1, f3, f4, f5, of_decide_eq_false f5] at hq
      subst hq
      clear hc
      go_enter Try.func50, Try.ntmps50
      go_wp2
      go_ret
      exact ⟨rfl, below_one0 _ _⟩
  · have f0 : decide (0 ≤ n) = true := by simp; omega
    have f1 : decide (n ≤ 1) = true := by simp; omega
    have f2 : decide (0 < n) = false := by simp; omega
    have f3 : (n == 0) = true := by simp; omega
    have f4 : (n == 1) = false := by simp; omega
    have f5 : decide (1 ≤ n) = false := by simp; omega
    by_cases hz : (s.size : Int) ≤ 10000
    · have z1 : decide ((s.size : Int) ≤ 10000) = true := decide_eq_true hz; clear hz
      obtain ⟨b, hq⟩ : ∃ b, okN 3 n s = b := ⟨_, rfl⟩
      rw [hq]
      simp [okN, okB, z1, of_decide_eq_true z1, f3, f4, f5, of_decide_eq_false f5] at hq
      subst hq
      clear hc
      go_enter Try.func50, Try.ntmps50
      go_wp2
      go_ret
      exact ⟨rfl, below_one0 _ _⟩
    · have z1 : decide ((s.size : Int) ≤ 10000) = false := decide_eq_false hz; clear hz
      obtain ⟨b, hq⟩ : ∃ b, okN 3 n s = b := ⟨_, rfl⟩
      rw [hq]
      simp [okN, okB, z1, of_decide_eq_false z1, f3, f4, f5, of_decide_eq_false f5] at hq
      subst hq
      clear hc
      go_enter Try.func50, Try.ntmps50
      go_wp2
      go_ret
      exact ⟨rfl, below_one0 _ _⟩
  · have f0 : decide (0 ≤ n) = true := by simp; omega
    have f1 : decide (n ≤ 1) = true := by simp; omega
    have f2 : decide (0 < n) = true := by simp; omega
    have f3 : (n == 0) = false := by simp; omega
    have f4 : (n == 1) = true := by simp; omega
    have f5 : decide (1 ≤ n) = true := by simp; omega
    by_cases hz : (s.size : Int) ≤ 10000
    · have z1 : decide ((s.size : Int) ≤ 10000) = true := decide_eq_true hz; clear hz
      obtain ⟨b, hq⟩ : ∃ b, okN 3 n s = b := ⟨_, rfl⟩
      rw [hq]
      simp [okN, okB, z1, of_decide_eq_true z1, f3, f4, f5, of_decide_eq_true f5] at hq
      subst hq
      clear hc
      go_enter Try.func50, Try.ntmps50
      go_wp2
      go_ret
      exact ⟨rfl, below_one0 _ _⟩
    · have z1 : decide ((s.size : Int) ≤ 10000) = false := decide_eq_false hz; clear hz
      obtain ⟨b, hq⟩ : ∃ b, okN 3 n s = b := ⟨_, rfl⟩
      rw [hq]
      simp [okN, okB, z1, of_decide_eq_false z1, f3, f4, f5, of_decide_eq_true f5] at hq
      subst hq
      clear hc
      go_enter Try.func50, Try.ntmps50
      go_wp2
      go_ret
      exact ⟨rfl, below_one0 _ _⟩
  · have f0 : decide (0 ≤ n) = true := by simp; omega
    have f1 : decide (n ≤ 1) = false := by simp; omega
    have f2 : decide (0 < n) = true := by simp; omega
    have f3 : (n == 0) = false := by simp; omega
    have f4 : (n == 1) = false := by simp; omega
    have f5 : decide (1 ≤ n) = true := by simp; omega
    by_cases hz : (s.size : Int) ≤ 10000
    · have z1 : decide ((s.size : Int) ≤ 10000) = true := decide_eq_true hz; clear hz
      obtain ⟨b, hq⟩ : ∃ b, okN 3 n s = b := ⟨_, rfl⟩
      rw [hq]
      simp [okN, okB, z1, of_decide_eq_true z1, f3, f4, f5, of_decide_eq_true f5] at hq
      subst hq
      clear hc
      go_enter Try.func50, Try.ntmps50
      go_wp2
      go_ret
      exact ⟨rfl, below_one0 _ _⟩
    · have z1 : decide ((s.size : Int) ≤ 10000) = false := decide_eq_false hz; clear hz
      obtain ⟨b, hq⟩ : ∃ b, okN 3 n s = b := ⟨_, rfl⟩
      rw [hq]
      simp [okN, okB, z1, of_decide_eq_false z1, f3, f4, f5, of_decide_eq_true f5] at hq
      subst hq
      clear hc
      go_enter Try.func50, Try.ntmps50
      go_wp2
      go_ret
      exact ⟨rfl, below_one0 _ _⟩

set_option maxHeartbeats 4000000 in
set_option maxRecDepth 100000 in
theorem rcheck_4 (n : Int) (s : ByteArray) (w : World) :
    Calls Try.prog 50 #[.agg #[.int .i64 4, .int .i64 n, .string s]] w fun e w' => e = .returned (.int .i64 (okN 4 n s)) ∧ Below w.heap.size w w' := by
  rcases (show n < 0 ∨ n = 0 ∨ n = 1 ∨ 1 < n from by omega) with hc | hc | hc | hc
  · have f0 : decide (0 ≤ n) = false := by simp; omega
    have f1 : decide (n ≤ 1) = true := by simp; omega
    have f2 : decide (0 < n) = false := by simp; omega
    have f3 : (n == 0) = false := by simp; omega
    have f4 : (n == 1) = false := by simp; omega
    have f5 : decide (1 ≤ n) = false := by simp; omega
    by_cases hs : s.toList = []
    · obtain ⟨s0, s1⟩ := emp_t hs; clear hs
      obtain ⟨b, hq⟩ : ∃ b, okN 4 n s = b := ⟨_, rfl⟩
      rw [hq]
      simp [okN, okB, s0, s1, f3, f4, f5, of_decide_eq_false f5] at hq
      subst hq
      clear hc
      go_enter Try.func50, Try.ntmps50
      go_wp2
      go_ret
      exact ⟨rfl, below_one0 _ _⟩
    · obtain ⟨s0, s1⟩ := emp_f hs; clear hs
      obtain ⟨b, hq⟩ : ∃ b, okN 4 n s = b := ⟨_, rfl⟩
      rw [hq]
      simp [okN, okB, s0, s1, f3, f4, f5, of_decide_eq_false f5] at hq
      subst hq
      clear hc
      go_enter Try.func50, Try.ntmps50
      go_wp2
      go_ret
      exact ⟨rfl, below_one0 _ _⟩
  · have f0 : decide (0 ≤ n) = true := by simp; omega
    have f1 : decide (n ≤ 1) = true := by simp; omega
    have f2 : decide (0 < n) = false := by simp; omega
    have f3 : (n == 0) = true := by simp; omega
    have f4 : (n == 1) = false := by simp; omega
    have f5 : decide (1 ≤ n) = false := by simp; omega
    by_cases hs : s.toList = []
    · obtain ⟨s0, s1⟩ := emp_t hs; clear hs
      obtain ⟨b, hq⟩ : ∃ b, okN 4 n s = b := ⟨_, rfl⟩
      rw [hq]
      simp [okN, okB, s0, s1, f3, f4, f5, of_decide_eq_false f5] at hq
      subst hq
      clear hc
      go_enter Try.func50, Try.ntmps50
      go_wp2
      go_ret
      exact ⟨rfl, below_one0 _ _⟩
    · obtain ⟨s0, s1⟩ := emp_f hs; clear hs
      obtain ⟨b, hq⟩ : ∃ b, okN 4 n s = b := ⟨_, rfl⟩
      rw [hq]
      simp [okN, okB, s0, s1, f3, f4, f5, of_decide_eq_false f5] at hq
      subst hq
      clear hc
      go_enter Try.func50, Try.ntmps50
      go_wp2
      go_ret
      exact ⟨rfl, below_one0 _ _⟩
  · have f0 : decide (0 ≤ n) = true := by simp; omega
    have f1 : decide (n ≤ 1) = true := by simp; omega
    have f2 : decide (0 < n) = true := by simp; omega
    have f3 : (n == 0) = false := by simp; omega
    have f4 : (n == 1) = true := by simp; omega
    have f5 : decide (1 ≤ n) = true := by simp; omega
    by_cases hs : s.toList = []
    · obtain ⟨s0, s1⟩ := emp_t hs; clear hs
      obtain ⟨b, hq⟩ : ∃ b, okN 4 n s = b := ⟨_, rfl⟩
      rw [hq]
      simp [okN, okB, s0, s1, f3, f4, f5, of_decide_eq_true f5] at hq
      subst hq
      clear hc
      go_enter Try.func50, Try.ntmps50
      go_wp2
      go_ret
      exact ⟨rfl, below_one0 _ _⟩
    · obtain ⟨s0, s1⟩ := emp_f hs; clear hs
      obtain ⟨b, hq⟩ : ∃ b, okN 4 n s = b := ⟨_, rfl⟩
      rw [hq]
      simp [okN, okB, s0, s1, f3, f4, f5, of_decide_eq_true f5] at hq
      subst hq
      clear hc
      go_enter Try.func50, Try.ntmps50
      go_wp2
      go_ret
      exact ⟨rfl, below_one0 _ _⟩
  · have f0 : decide (0 ≤ n) = true := by simp; omega
    have f1 : decide (n ≤ 1) = false := by simp; omega
    have f2 : decide (0 < n) = true := by simp; omega
    have f3 : (n == 0) = false := by simp; omega
    have f4 : (n == 1) = false := by simp; omega
    have f5 : decide (1 ≤ n) = true := by simp; omega
    by_cases hs : s.toList = []
    · obtain ⟨s0, s1⟩ := emp_t hs; clear hs
      obtain ⟨b, hq⟩ : ∃ b, okN 4 n s = b := ⟨_, rfl⟩
      rw [hq]
      simp [okN, okB, s0, s1, f3, f4, f5, of_decide_eq_true f5] at hq
      subst hq
      clear hc
      go_enter Try.func50, Try.ntmps50
      go_wp2
      go_ret
      exact ⟨rfl, below_one0 _ _⟩
    · obtain ⟨s0, s1⟩ := emp_f hs; clear hs
      obtain ⟨b, hq⟩ : ∃ b, okN 4 n s = b := ⟨_, rfl⟩
      rw [hq]
      simp [okN, okB, s0, s1, f3, f4, f5, of_decide_eq_true f5] at hq
      subst hq
      clear hc
      go_enter Try.func50, Try.ntmps50
      go_wp2
      go_ret
      exact ⟨rfl, below_one0 _ _⟩

set_option maxHeartbeats 4000000 in
set_option maxRecDepth 100000 in
theorem rcheck_5 (n : Int) (s : ByteArray) (w : World) :
    Calls Try.prog 50 #[.agg #[.int .i64 5, .int .i64 n, .string s]] w fun e w' => e = .returned (.int .i64 (okN 5 n s)) ∧ Below w.heap.size w w' := by
  rcases (show n < 0 ∨ n = 0 ∨ n = 1 ∨ 1 < n from by omega) with hc | hc | hc | hc
  · have f0 : decide (0 ≤ n) = false := by simp; omega
    have f1 : decide (n ≤ 1) = true := by simp; omega
    have f2 : decide (0 < n) = false := by simp; omega
    have f3 : (n == 0) = false := by simp; omega
    have f4 : (n == 1) = false := by simp; omega
    have f5 : decide (1 ≤ n) = false := by simp; omega
    by_cases hs : s.toList = []
    · obtain ⟨s0, s1⟩ := emp_t hs; clear hs
      obtain ⟨b, hq⟩ : ∃ b, okN 5 n s = b := ⟨_, rfl⟩
      rw [hq]
      simp [okN, okB, s0, s1, f3, f4, f5, of_decide_eq_false f5] at hq
      subst hq
      clear hc
      go_enter Try.func50, Try.ntmps50
      go_wp2
      go_ret
      exact ⟨rfl, below_one0 _ _⟩
    · obtain ⟨s0, s1⟩ := emp_f hs; clear hs
      obtain ⟨b, hq⟩ : ∃ b, okN 5 n s = b := ⟨_, rfl⟩
      rw [hq]
      simp [okN, okB, s0, s1, f3, f4, f5, of_decide_eq_false f5] at hq
      subst hq
      clear hc
      go_enter Try.func50, Try.ntmps50
      go_wp2
      go_ret
      exact ⟨rfl, below_one0 _ _⟩
  · have f0 : decide (0 ≤ n) = true := by simp; omega
    have f1 : decide (n ≤ 1) = true := by simp; omega
    have f2 : decide (0 < n) = false := by simp; omega
    have f3 : (n == 0) = true := by simp; omega
    have f4 : (n == 1) = false := by simp; omega
    have f5 : decide (1 ≤ n) = false := by simp; omega
    by_cases hs : s.toList = []
    · obtain ⟨s0, s1⟩ := emp_t hs; clear hs
      obtain ⟨b, hq⟩ : ∃ b, okN 5 n s = b := ⟨_, rfl⟩
      rw [hq]
      simp [okN, okB, s0, s1, f3, f4, f5, of_decide_eq_false f5] at hq
      subst hq
      clear hc
      go_enter Try.func50, Try.ntmps50
      go_wp2
      go_ret
      exact ⟨rfl, below_one0 _ _⟩
    · obtain ⟨s0, s1⟩ := emp_f hs; clear hs
      obtain ⟨b, hq⟩ : ∃ b, okN 5 n s = b := ⟨_, rfl⟩
      rw [hq]
      simp [okN, okB, s0, s1, f3, f4, f5, of_decide_eq_false f5] at hq
      subst hq
      clear hc
      go_enter Try.func50, Try.ntmps50
      go_wp2
      go_ret
      exact ⟨rfl, below_one0 _ _⟩
  · have f0 : decide (0 ≤ n) = true := by simp; omega
    have f1 : decide (n ≤ 1) = true := by simp; omega
    have f2 : decide (0 < n) = true := by simp; omega
    have f3 : (n == 0) = false := by simp; omega
    have f4 : (n == 1) = true := by simp; omega
    have f5 : decide (1 ≤ n) = true := by simp; omega
    by_cases hs : s.toList = []
    · obtain ⟨s0, s1⟩ := emp_t hs; clear hs
      obtain ⟨b, hq⟩ : ∃ b, okN 5 n s = b := ⟨_, rfl⟩
      rw [hq]
      simp [okN, okB, s0, s1, f3, f4, f5, of_decide_eq_true f5] at hq
      subst hq
      clear hc
      go_enter Try.func50, Try.ntmps50
      go_wp2
      go_ret
      exact ⟨rfl, below_one0 _ _⟩
    · obtain ⟨s0, s1⟩ := emp_f hs; clear hs
      obtain ⟨b, hq⟩ : ∃ b, okN 5 n s = b := ⟨_, rfl⟩
      rw [hq]
      simp [okN, okB, s0, s1, f3, f4, f5, of_decide_eq_true f5] at hq
      subst hq
      clear hc
      go_enter Try.func50, Try.ntmps50
      go_wp2
      go_ret
      exact ⟨rfl, below_one0 _ _⟩
  · have f0 : decide (0 ≤ n) = true := by simp; omega
    have f1 : decide (n ≤ 1) = false := by simp; omega
    have f2 : decide (0 < n) = true := by simp; omega
    have f3 : (n == 0) = false := by simp; omega
    have f4 : (n == 1) = false := by simp; omega
    have f5 : decide (1 ≤ n) = true := by simp; omega
    by_cases hs : s.toList = []
    · obtain ⟨s0, s1⟩ := emp_t hs; clear hs
      obtain ⟨b, hq⟩ : ∃ b, okN 5 n s = b := ⟨_, rfl⟩
      rw [hq]
      simp [okN, okB, s0, s1, f3, f4, f5, of_decide_eq_true f5] at hq
      subst hq
      clear hc
      go_enter Try.func50, Try.ntmps50
      go_wp2
      go_ret
      exact ⟨rfl, below_one0 _ _⟩
    · obtain ⟨s0, s1⟩ := emp_f hs; clear hs
      obtain ⟨b, hq⟩ : ∃ b, okN 5 n s = b := ⟨_, rfl⟩
      rw [hq]
      simp [okN, okB, s0, s1, f3, f4, f5, of_decide_eq_true f5] at hq
      subst hq
      clear hc
      go_enter Try.func50, Try.ntmps50
      go_wp2
      go_ret
      exact ⟨rfl, below_one0 _ _⟩

set_option maxHeartbeats 4000000 in
set_option maxRecDepth 100000 in
theorem rcheck_6 (n : Int) (s : ByteArray) (w : World) :
    Calls Try.prog 50 #[.agg #[.int .i64 6, .int .i64 n, .string s]] w fun e w' => e = .returned (.int .i64 (okN 6 n s)) ∧ Below w.heap.size w w' := by
  rcases (show n < 0 ∨ n = 0 ∨ n = 1 ∨ 1 < n from by omega) with hc | hc | hc | hc
  · have f0 : decide (0 ≤ n) = false := by simp; omega
    have f1 : decide (n ≤ 1) = true := by simp; omega
    have f2 : decide (0 < n) = false := by simp; omega
    have f3 : (n == 0) = false := by simp; omega
    have f4 : (n == 1) = false := by simp; omega
    have f5 : decide (1 ≤ n) = false := by simp; omega
    by_cases hs : s.toList = []
    · obtain ⟨s0, s1⟩ := emp_t hs; clear hs
      obtain ⟨b, hq⟩ : ∃ b, okN 6 n s = b := ⟨_, rfl⟩
      rw [hq]
      simp [okN, okB, s0, s1, f3, f4, f5, of_decide_eq_false f5] at hq
      subst hq
      clear hc
      go_enter Try.func50, Try.ntmps50
      go_wp2
      go_ret
      exact ⟨rfl, below_one0 _ _⟩
    · obtain ⟨s0, s1⟩ := emp_f hs; clear hs
      obtain ⟨b, hq⟩ : ∃ b, okN 6 n s = b := ⟨_, rfl⟩
      rw [hq]
      simp [okN, okB, s0, s1, f3, f4, f5, of_decide_eq_false f5] at hq
      subst hq
      clear hc
      go_enter Try.func50, Try.ntmps50
      go_wp2
      go_ret
      exact ⟨rfl, below_one0 _ _⟩
  · have f0 : decide (0 ≤ n) = true := by simp; omega
    have f1 : decide (n ≤ 1) = true := by simp; omega
    have f2 : decide (0 < n) = false := by simp; omega
    have f3 : (n == 0) = true := by simp; omega
    have f4 : (n == 1) = false := by simp; omega
    have f5 : decide (1 ≤ n) = false := by simp; omega
    by_cases hs : s.toList = []
    · obtain ⟨s0, s1⟩ := emp_t hs; clear hs
      obtain ⟨b, hq⟩ : ∃ b, okN 6 n s = b := ⟨_, rfl⟩
      rw [hq]
      simp [okN, okB, s0, s1, f3, f4, f5, of_decide_eq_false f5] at hq
      subst hq
      clear hc
      go_enter Try.func50, Try.ntmps50
      go_wp2
      go_ret
      exact ⟨rfl, below_one0 _ _⟩
    · obtain ⟨s0, s1⟩ := emp_f hs; clear hs
      obtain ⟨b, hq⟩ : ∃ b, okN 6 n s = b := ⟨_, rfl⟩
      rw [hq]
      simp [okN, okB, s0, s1, f3, f4, f5, of_decide_eq_false f5] at hq
      subst hq
      clear hc
      go_enter Try.func50, Try.ntmps50
      go_wp2
      go_ret
      exact ⟨rfl, below_one0 _ _⟩
  · have f0 : decide (0 ≤ n) = true := by simp; omega
    have f1 : decide (n ≤ 1) = true := by simp; omega
    have f2 : decide (0 < n) = true := by simp; omega
    have f3 : (n == 0) = false := by simp; omega
    have f4 : (n == 1) = true := by simp; omega
    have f5 : decide (1 ≤ n) = true := by simp; omega
    by_cases hs : s.toList = []
    · obtain ⟨s0, s1⟩ := emp_t hs; clear hs
      obtain ⟨b, hq⟩ : ∃ b, okN 6 n s = b := ⟨_, rfl⟩
      rw [hq]
      simp [okN, okB, s0, s1, f3, f4, f5, of_decide_eq_true f5] at hq
      subst hq
      clear hc
      go_enter Try.func50, Try.ntmps50
      go_wp2
      go_ret
      exact ⟨rfl, below_one0 _ _⟩
    · obtain ⟨s0, s1⟩ := emp_f hs; clear hs
      obtain ⟨b, hq⟩ : ∃ b, okN 6 n s = b := ⟨_, rfl⟩
      rw [hq]
      simp [okN, okB, s0, s1, f3, f4, f5, of_decide_eq_true f5] at hq
      subst hq
      clear hc
      go_enter Try.func50, Try.ntmps50
      go_wp2
      go_ret
      exact ⟨rfl, below_one0 _ _⟩
  · have f0 : decide (0 ≤ n) = true := by simp; omega
    have f1 : decide (n ≤ 1) = false := by simp; omega
    have f2 : decide (0 < n) = true := by simp; omega
    have f3 : (n == 0) = false := by simp; omega
    have f4 : (n == 1) = false := by simp; omega
    have f5 : decide (1 ≤ n) = true := by simp; omega
    by_cases hs : s.toList = []
    · obtain ⟨s0, s1⟩ := emp_t hs; clear hs
      obtain ⟨b, hq⟩ : ∃ b, okN 6 n s = b := ⟨_, rfl⟩
      rw [hq]
      simp [okN, okB, s0, s1, f3, f4, f5, of_decide_eq_true f5] at hq
      subst hq
      clear hc
      go_enter Try.func50, Try.ntmps50
      go_wp2
      go_ret
      exact ⟨rfl, below_one0 _ _⟩
    · obtain ⟨s0, s1⟩ := emp_f hs; clear hs
      obtain ⟨b, hq⟩ : ∃ b, okN 6 n s = b := ⟨_, rfl⟩
      rw [hq]
      simp [okN, okB, s0, s1, f3, f4, f5, of_decide_eq_true f5] at hq
      subst hq
      clear hc
      go_enter Try.func50, Try.ntmps50
      go_wp2
      go_ret
      exact ⟨rfl, below_one0 _ _⟩

set_option maxHeartbeats 4000000 in
set_option maxRecDepth 100000 in
theorem rcheck_other (k n : Int) (s : ByteArray) (w : World) (e0 : (k == 0) = false) (e1 : (k == 1) = false) (e2 : (k == 2) = false) (e3 : (k == 3) = false) (e4 : (k == 4) = false) (e5 : (k == 5) = false) (e6 : (k == 6) = false) :
    Calls Try.prog 50 #[.agg #[.int .i64 k, .int .i64 n, .string s]] w fun e w' => e = .returned (.int .i64 (okN k n s)) ∧ Below w.heap.size w w' := by
  obtain ⟨b, hq⟩ : ∃ b, okN k n s = b := ⟨_, rfl⟩
  rw [hq]
  simp [okN, okB, beq_eq_false_iff_ne.1 e0, beq_eq_false_iff_ne.1 e1, beq_eq_false_iff_ne.1 e2, beq_eq_false_iff_ne.1 e3, beq_eq_false_iff_ne.1 e4, beq_eq_false_iff_ne.1 e5, beq_eq_false_iff_ne.1 e6] at hq
  subst hq
  go_enter Try.func50, Try.ntmps50
  go_wp2
  go_ret
  exact ⟨rfl, below_one0 _ _⟩

theorem rcheck_any (k n : Int) (s : ByteArray) (w : World) :
    Calls Try.prog 50 #[.agg #[.int .i64 k, .int .i64 n, .string s]] w fun e w' => e = .returned (.int .i64 (okN k n s)) ∧ Below w.heap.size w w' := by
  by_cases h0 : k = 0
  · subst h0; exact rcheck_0 n s w
  by_cases h1 : k = 1
  · subst h1; exact rcheck_1 n s w
  by_cases h2 : k = 2
  · subst h2; exact rcheck_2 n s w
  by_cases h3 : k = 3
  · subst h3; exact rcheck_3 n s w
  by_cases h4 : k = 4
  · subst h4; exact rcheck_4 n s w
  by_cases h5 : k = 5
  · subst h5; exact rcheck_5 n s w
  by_cases h6 : k = 6
  · subst h6; exact rcheck_6 n s w
  exact rcheck_other k n s w (by simp [h0]) (by simp [h1]) (by simp [h2]) (by simp [h3]) (by simp [h4]) (by simp [h5]) (by simp [h6])

def trestleref03_Check.f (k n : Int) (s : ByteArray) : Option Int := some (okN k n s)
theorem trestleref03_Check.calls (a0_0 : Int) (a0_1 : Int) (a0_2 : ByteArray) (r : Int) (w : World) (h : trestleref03_Check.f a0_0 a0_1 a0_2 = some r) :
    Calls Try.prog 50 #[.agg #[.int .i64 a0_0, .int .i64 a0_1, .string a0_2]] w fun e w' => e = .returned (.int .i64 r) ∧ Below w.heap.size w w' := by
  obtain rfl := Option.some.inj h
  exact rcheck_any _ _ _ _
end Go.Proofs.Ytlmmhlabacghnaa.PH
