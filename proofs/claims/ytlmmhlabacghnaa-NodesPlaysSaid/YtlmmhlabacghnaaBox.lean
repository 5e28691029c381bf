/- What box.box answers for every value: whether the value is in form, kind by kind; and box.Check over it. -/
import Derived.Test.YtlmmhlabacghnaaPHx0
import Derived.WalkLawsBesides
import Derived.Lib.Hide
namespace Go.Proofs.Ytlmmhlabacghnaa.PH
open Go.RowKit Go.Proofs.YtlmmhlabacghnaaW.PrintWords
set_option linter.unusedVariables false
set_option linter.unusedSimpArgs false

/-- Is the value in form? -/
def okB (k n : Int) (s : ByteArray) : Bool :=
  if k = 0 then n == 0 && s.toList == [] else
  if k = 1 then (n == 0 || n == 1) && s.toList == [] else
  if k = 2 then s.toList == [] else
  if k = 3 then n == 0 && decide ((s.size : Int) ≤ 10000) else
  if k = 4 ∨ k = 5 ∨ k = 6 then decide (1 ≤ n) && s.toList == [] else false

theorem below_one (w : World) (o : Obj) (n : Nat) : Below w.heap.size w ((w.alloc o).drewN n) := pw_below_drewN (below_alloc (Below.refl _ _) o) n
theorem below_one0 (w : World) (o : Obj) : Below w.heap.size w (w.alloc o) := (below_alloc (Below.refl _ _) o)

def BoxPost (w : World) (b : Bool) (e : Ending) (w' : World) : Prop := (∃ v, e = .returned (.tuple #[v, .bool b])) ∧ Below w.heap.size w w'

theorem emp_t {s : ByteArray} (h : s.toList = []) : (s.toList == ([] : List UInt8)) = true ∧ s.toList.isEmpty = true := by simp [h]
theorem emp_f {s : ByteArray} (h : ¬ s.toList = []) : (s.toList == ([] : List UInt8)) = false ∧ s.toList.isEmpty = false := by simp [h]

set_option maxHeartbeats 4000000 in
set_option maxRecDepth 100000 in
theorem box_0 (n : Int) (s : ByteArray) (w : World) :
    Calls Try.prog 84 #[.agg #[.int .i64 0, .int .i64 n, .string s]] w (BoxPost w (okB 0 n s)) := by
  by_cases hs : s.toList = []
  · obtain ⟨s0, s1⟩ := emp_t hs
    by_cases hn : n = 0
    · have n0 : (n == 0) = true := beq_iff_eq.2 hn
      obtain ⟨b, hq⟩ : ∃ b, okB 0 n s = b := ⟨_, rfl⟩
      rw [hq]
      simp [okB, s0, s1, n0] at hq
      subst hq
      clear hs hn
      go_enter Try.func84, Try.ntmps84
      go_wp2
      go_ret2
      exact ⟨⟨_, rfl⟩, below_one0 _ _⟩
    · have n0 : (n == 0) = false := beq_eq_false_iff_ne.2 hn
      obtain ⟨b, hq⟩ : ∃ b, okB 0 n s = b := ⟨_, rfl⟩
      rw [hq]
      simp [okB, s0, s1, n0] at hq
      subst hq
      clear hs hn
      go_enter Try.func84, Try.ntmps84
      go_wp2
      go_ret2
      exact ⟨⟨_, rfl⟩, below_one0 _ _⟩
  · obtain ⟨s0, s1⟩ := emp_f hs
    by_cases hn : n = 0
    · have n0 : (n == 0) = true := beq_iff_eq.2 hn
      obtain ⟨b, hq⟩ : ∃ b, okB 0 n s = b := ⟨_, rfl⟩
      rw [hq]
      simp [okB, s0, s1, n0] at hq
      subst hq
      clear hs hn
      go_enter Try.func84, Try.ntmps84
      go_wp2
      go_ret2
      exact ⟨⟨_, rfl⟩, below_one0 _ _⟩
    · have n0 : (n == 0) = false := beq_eq_false_iff_ne.2 hn
      obtain ⟨b, hq⟩ : ∃ b, okB 0 n s = b := ⟨_, rfl⟩
      rw [hq]
      simp [okB, s0, s1, n0] at hq
      subst hq
      clear hs hn
      go_enter Try.func84, Try.ntmps84
      go_wp2
      go_ret2
      exact ⟨⟨_, rfl⟩, below_one0 _ _⟩

set_option maxHeartbeats 4000000 in
set_option maxRecDepth 100000 in
theorem box_1 (n : Int) (s : ByteArray) (w : World) :
    Calls Try.prog 84 #[.agg #[.int .i64 1, .int .i64 n, .string s]] w (BoxPost w (okB 1 n s)) := by
  by_cases hs : s.toList = []
  · obtain ⟨s0, s1⟩ := emp_t hs
    by_cases hn : n = 0
    · have n0 : (n == 0) = true := beq_iff_eq.2 hn
      by_cases h1 : n = 1
      · have n1 : (n == 1) = true := beq_iff_eq.2 h1
        omega
      · have n1 : (n == 1) = false := beq_eq_false_iff_ne.2 h1
        obtain ⟨b, hq⟩ : ∃ b, okB 1 n s = b := ⟨_, rfl⟩
        rw [hq]
        simp [okB, s0, s1, n0, n1] at hq
        subst hq
        clear hs hn h1
        go_enter Try.func84, Try.ntmps84
        go_wp2
        go_quiet (fail)
        go_wp2
        go_ret2
        exact ⟨⟨_, rfl⟩, below_one _ _ _⟩
    · have n0 : (n == 0) = false := beq_eq_false_iff_ne.2 hn
      by_cases h1 : n = 1
      · have n1 : (n == 1) = true := beq_iff_eq.2 h1
        obtain ⟨b, hq⟩ : ∃ b, okB 1 n s = b := ⟨_, rfl⟩
        rw [hq]
        simp [okB, s0, s1, n0, n1] at hq
        subst hq
        clear hs hn h1
        go_enter Try.func84, Try.ntmps84
        go_wp2
        go_quiet (fail)
        go_wp2
        go_ret2
        exact ⟨⟨_, rfl⟩, below_one _ _ _⟩
      · have n1 : (n == 1) = false := beq_eq_false_iff_ne.2 h1
        obtain ⟨b, hq⟩ : ∃ b, okB 1 n s = b := ⟨_, rfl⟩
        rw [hq]
        simp [okB, s0, s1, n0, n1] at hq
        subst hq
        clear hs hn h1
        go_enter Try.func84, Try.ntmps84
        go_wp2
        go_quiet (fail)
        go_wp2
        go_ret2
        exact ⟨⟨_, rfl⟩, below_one _ _ _⟩
  · obtain ⟨s0, s1⟩ := emp_f hs
    by_cases hn : n = 0
    · have n0 : (n == 0) = true := beq_iff_eq.2 hn
      by_cases h1 : n = 1
      · have n1 : (n == 1) = true := beq_iff_eq.2 h1
        omega
      · have n1 : (n == 1) = false := beq_eq_false_iff_ne.2 h1
        obtain ⟨b, hq⟩ : ∃ b, okB 1 n s = b := ⟨_, rfl⟩
        rw [hq]
        simp [okB, s0, s1, n0, n1] at hq
        subst hq
        clear hs hn h1
        go_enter Try.func84, Try.ntmps84
        go_wp2
        go_quiet (fail)
        go_wp2
        go_ret2
        exact ⟨⟨_, rfl⟩, below_one _ _ _⟩
    · have n0 : (n == 0) = false := beq_eq_false_iff_ne.2 hn
      by_cases h1 : n = 1
      · have n1 : (n == 1) = true := beq_iff_eq.2 h1
        obtain ⟨b, hq⟩ : ∃ b, okB 1 n s = b := ⟨_, rfl⟩
        rw [hq]
        simp [okB, s0, s1, n0, n1] at hq
        subst hq
        clear hs hn h1
        go_enter Try.func84, Try.ntmps84
        go_wp2
        go_quiet (fail)
        go_wp2
        go_ret2
        exact ⟨⟨_, rfl⟩, below_one _ _ _⟩
      · have n1 : (n == 1) = false := beq_eq_false_iff_ne.2 h1
        obtain ⟨b, hq⟩ : ∃ b, okB 1 n s = b := ⟨_, rfl⟩
        rw [hq]
        simp [okB, s0, s1, n0, n1] at hq
        subst hq
        clear hs hn h1
        go_enter Try.func84, Try.ntmps84
        go_wp2
        go_quiet (fail)
        go_wp2
        go_ret2
        exact ⟨⟨_, rfl⟩, below_one _ _ _⟩

set_option maxHeartbeats 4000000 in
set_option maxRecDepth 100000 in
theorem box_2 (n : Int) (s : ByteArray) (w : World) :
    Calls Try.prog 84 #[.agg #[.int .i64 2, .int .i64 n, .string s]] w (BoxPost w (okB 2 n s)) := by
  by_cases hs : s.toList = []
  · obtain ⟨s0, s1⟩ := emp_t hs
    by_cases hn : n = 0
    · have n0 : (n == 0) = true := beq_iff_eq.2 hn
      obtain ⟨b, hq⟩ : ∃ b, okB 2 n s = b := ⟨_, rfl⟩
      rw [hq]
      simp [okB, s0, s1, n0] at hq
      subst hq
      clear hs hn
      go_enter Try.func84, Try.ntmps84
      go_wp2
      go_quiet (fail)
      go_wp2
      go_ret2
      exact ⟨⟨_, rfl⟩, below_one _ _ _⟩
    · have n0 : (n == 0) = false := beq_eq_false_iff_ne.2 hn
      obtain ⟨b, hq⟩ : ∃ b, okB 2 n s = b := ⟨_, rfl⟩
      rw [hq]
      simp [okB, s0, s1, n0] at hq
      subst hq
      clear hs hn
      go_enter Try.func84, Try.ntmps84
      go_wp2
      go_quiet (fail)
      go_wp2
      go_ret2
      exact ⟨⟨_, rfl⟩, below_one _ _ _⟩
  · obtain ⟨s0, s1⟩ := emp_f hs
    by_cases hn : n = 0
    · have n0 : (n == 0) = true := beq_iff_eq.2 hn
      obtain ⟨b, hq⟩ : ∃ b, okB 2 n s = b := ⟨_, rfl⟩
      rw [hq]
      simp [okB, s0, s1, n0] at hq
      subst hq
      clear hs hn
      go_enter Try.func84, Try.ntmps84
      go_wp2
      go_quiet (fail)
      go_wp2
      go_ret2
      exact ⟨⟨_, rfl⟩, below_one _ _ _⟩
    · have n0 : (n == 0) = false := beq_eq_false_iff_ne.2 hn
      obtain ⟨b, hq⟩ : ∃ b, okB 2 n s = b := ⟨_, rfl⟩
      rw [hq]
      simp [okB, s0, s1, n0] at hq
      subst hq
      clear hs hn
      go_enter Try.func84, Try.ntmps84
      go_wp2
      go_quiet (fail)
      go_wp2
      go_ret2
      exact ⟨⟨_, rfl⟩, below_one _ _ _⟩

set_option maxHeartbeats 4000000 in
set_option maxRecDepth 100000 in
theorem box_3 (n : Int) (s : ByteArray) (w : World) :
    Calls Try.prog 84 #[.agg #[.int .i64 3, .int .i64 n, .string s]] w (BoxPost w (okB 3 n s)) := by
  by_cases hs : s.toList = []
  · obtain ⟨s0, s1⟩ := emp_t hs
    by_cases hn : n = 0
    · have n0 : (n == 0) = true := beq_iff_eq.2 hn
      by_cases hz : (s.size : Int) ≤ 10000
      · have z1 : decide ((s.size : Int) ≤ 10000) = true := decide_eq_true hz
        obtain ⟨b, hq⟩ : ∃ b, okB 3 n s = b := ⟨_, rfl⟩
        rw [hq]
        simp [okB, s0, s1, n0, hz] at hq
        subst hq
        clear hs hn hz
        go_enter Try.func84, Try.ntmps84
        go_wp2
        go_quiet (fail)
        go_wp2
        go_ret2
        exact ⟨⟨_, rfl⟩, below_one _ _ _⟩
      · have z1 : decide ((s.size : Int) ≤ 10000) = false := decide_eq_false hz
        obtain ⟨b, hq⟩ : ∃ b, okB 3 n s = b := ⟨_, rfl⟩
        rw [hq]
        simp [okB, s0, s1, n0, hz] at hq
        subst hq
        clear hs hn hz
        go_enter Try.func84, Try.ntmps84
        go_wp2
        go_quiet (fail)
        go_wp2
        go_ret2
        exact ⟨⟨_, rfl⟩, below_one _ _ _⟩
    · have n0 : (n == 0) = false := beq_eq_false_iff_ne.2 hn
      by_cases hz : (s.size : Int) ≤ 10000
      · have z1 : decide ((s.size : Int) ≤ 10000) = true := decide_eq_true hz
        obtain ⟨b, hq⟩ : ∃ b, okB 3 n s = b := ⟨_, rfl⟩
        rw [hq]
        simp [okB, s0, s1, n0, hz] at hq
        subst hq
        clear hs hn hz
        go_enter Try.func84, Try.ntmps84
        go_wp2
        go_quiet (fail)
        go_wp2
        go_ret2
        exact ⟨⟨_, rfl⟩, below_one _ _ _⟩
      · have z1 : decide ((s.size : Int) ≤ 10000) = false := decide_eq_false hz
        obtain ⟨b, hq⟩ : ∃ b, okB 3 n s = b := ⟨_, rfl⟩
        rw [hq]
        simp [okB, s0, s1, n0, hz] at hq
        subst hq
        clear hs hn hz
        go_enter Try.func84, Try.ntmps84
        go_wp2
        go_quiet (fail)
        go_wp2
        go_ret2
        exact ⟨⟨_, rfl⟩, below_one _ _ _⟩
  · obtain ⟨s0, s1⟩ := emp_f hs
    by_cases hn : n = 0
    · have n0 : (n == 0) = true := beq_iff_eq.2 hn
      by_cases hz : (s.size : Int) ≤ 10000
      · have z1 : decide ((s.size : Int) ≤ 10000) = true := decide_eq_true hz
        obtain ⟨b, hq⟩ : ∃ b, okB 3 n s = b := ⟨_, rfl⟩
        rw [hq]
        simp [okB, s0, s1, n0, hz] at hq
        subst hq
        clear hs hn hz
        go_enter Try.func84, Try.ntmps84
        go_wp2
        go_quiet (fail)
        go_wp2
        go_ret2
        exact ⟨⟨_, rfl⟩, below_one _ _ _⟩
      · have z1 : decide ((s.size : Int) ≤ 10000) = false := decide_eq_false hz
        obtain ⟨b, hq⟩ : ∃ b, okB 3 n s = b := ⟨_, rfl⟩
        rw [hq]
        simp [okB, s0, s1, n0, hz] at hq
        subst hq
        clear hs hn hz
        go_enter Try.func84, Try.ntmps84
        go_wp2
        go_quiet (fail)
        go_wp2
        go_ret2
        exact ⟨⟨_, rfl⟩, below_one _ _ _⟩
    · have n0 : (n == 0) = false := beq_eq_false_iff_ne.2 hn
      by_cases hz : (s.size : Int) ≤ 10000
      · have z1 : decide ((s.size : Int) ≤ 10000) = true := decide_eq_true hz
        obtain ⟨b, hq⟩ : ∃ b, okB 3 n s = b := ⟨_, rfl⟩
        rw [hq]
        simp [okB, s0, s1, n0, hz] at hq
        subst hq
        clear hs hn hz
        go_enter Try.func84, Try.ntmps84
        go_wp2
        go_quiet (fail)
        go_wp2
        go_ret2
        exact ⟨⟨_, rfl⟩, below_one _ _ _⟩
      · have z1 : decide ((s.size : Int) ≤ 10000) = false := decide_eq_false hz
        obtain ⟨b, hq⟩ : ∃ b, okB 3 n s = b := ⟨_, rfl⟩
        rw [hq]
        simp [okB, s0, s1, n0, hz] at hq
        subst hq
        clear hs hn hz
        go_enter Try.func84, Try.ntmps84
        go_wp2
        go_quiet (fail)
        go_wp2
        go_ret2
        exact ⟨⟨_, rfl⟩, below_one _ _ _⟩

set_option maxHeartbeats 4000000 in
set_option maxRecDepth 100000 in
theorem box_4 (n : Int) (s : ByteArray) (w : World) :
    Calls Try.prog 84 #[.agg #[.int .i64 4, .int .i64 n, .string s]] w (BoxPost w (okB 4 n s)) := by
  by_cases hs : s.toList = []
  · obtain ⟨s0, s1⟩ := emp_t hs
    by_cases hn : n = 0
    · have n0 : (n == 0) = true := beq_iff_eq.2 hn
      by_cases hg : 1 ≤ n
      · have g1 : decide (1 ≤ n) = true := decide_eq_true hg
        omega
      · have g1 : decide (1 ≤ n) = false := decide_eq_false hg
        obtain ⟨b, hq⟩ : ∃ b, okB 4 n s = b := ⟨_, rfl⟩
        rw [hq]
        simp [okB, s0, s1, n0, hg] at hq
        subst hq
        clear hs hn hg
        go_enter Try.func84, Try.ntmps84
        go_wp2
        go_quiet (fail)
        go_wp2
        go_ret2
        exact ⟨⟨_, rfl⟩, below_one _ _ _⟩
    · have n0 : (n == 0) = false := beq_eq_false_iff_ne.2 hn
      by_cases hg : 1 ≤ n
      · have g1 : decide (1 ≤ n) = true := decide_eq_true hg
        obtain ⟨b, hq⟩ : ∃ b, okB 4 n s = b := ⟨_, rfl⟩
        rw [hq]
        simp [okB, s0, s1, n0, hg] at hq
        subst hq
        clear hs hn hg
        go_enter Try.func84, Try.ntmps84
        go_wp2
        go_quiet (fail)
        go_wp2
        go_ret2
        exact ⟨⟨_, rfl⟩, below_one _ _ _⟩
      · have g1 : decide (1 ≤ n) = false := decide_eq_false hg
        obtain ⟨b, hq⟩ : ∃ b, okB 4 n s = b := ⟨_, rfl⟩
        rw [hq]
        simp [okB, s0, s1, n0, hg] at hq
        subst hq
        clear hs hn hg
        go_enter Try.func84, Try.ntmps84
        go_wp2
        go_quiet (fail)
        go_wp2
        go_ret2
        exact ⟨⟨_, rfl⟩, below_one _ _ _⟩
  · obtain ⟨s0, s1⟩ := emp_f hs
    by_cases hn : n = 0
    · have n0 : (n == 0) = true := beq_iff_eq.2 hn
      by_cases hg : 1 ≤ n
      · have g1 : decide (1 ≤ n) = true := decide_eq_true hg
        omega
      · have g1 : decide (1 ≤ n) = false := decide_eq_false hg
        obtain ⟨b, hq⟩ : ∃ b, okB 4 n s = b := ⟨_, rfl⟩
        rw [hq]
        simp [okB, s0, s1, n0, hg] at hq
        subst hq
        clear hs hn hg
        go_enter Try.func84, Try.ntmps84
        go_wp2
        go_quiet (fail)
        go_wp2
        go_ret2
        exact ⟨⟨_, rfl⟩, below_one _ _ _⟩
    · have n0 : (n == 0) = false := beq_eq_false_iff_ne.2 hn
      by_cases hg : 1 ≤ n
      · have g1 : decide (1 ≤ n) = true := decide_eq_true hg
        obtain ⟨b, hq⟩ : ∃ b, okB 4 n s = b := ⟨_, rfl⟩
        rw [hq]
        simp [okB, s0, s1, n0, hg] at hq
        subst hq
        clear hs hn hg
        go_enter Try.func84, Try.ntmps84
        go_wp2
        go_quiet (fail)
        go_wp2
        go_ret2
        exact ⟨⟨_, rfl⟩, below_one _ _ _⟩
      · have g1 : decide (1 ≤ n) = false := decide_eq_false hg
        obtain ⟨b, hq⟩ : ∃ b, okB 4 n s = b := ⟨_, rfl⟩
        rw [hq]
        simp [okB, s0, s1, n0, hg] at hq
        subst hq
        clear hs hn hg
        go_enter Try.func84, Try.ntmps84
        go_wp2
        go_quiet (fail)
        go_wp2
        go_ret2
        exact ⟨⟨_, rfl⟩, below_one _ _ _⟩

set_option maxHeartbeats 4000000 in
set_option maxRecDepth 100000 in
theorem box_5 (n : Int) (s : ByteArray) (w : World) :
    Calls Try.prog 84 #[.agg #[.int .i64 5, .int .i64 n, .string s]] w (BoxPost w (okB 5 n s)) := by
  by_cases hs : s.toList = []
  · obtain ⟨s0, s1⟩ := emp_t hs
    by_cases hn : n = 0
    · have n0 : (n == 0) = true := beq_iff_eq.2 hn
      by_cases hg : 1 ≤ n
      · have g1 : decide (1 ≤ n) = true := decide_eq_true hg
        omega
      · have g1 : decide (1 ≤ n) = false := decide_eq_false hg
        obtain ⟨b, hq⟩ : ∃ b, okB 5 n s = b := ⟨_, rfl⟩
        rw [hq]
        simp [okB, s0, s1, n0, hg] at hq
        subst hq
        clear hs hn hg
        go_enter Try.func84, Try.ntmps84
        go_wp2
        go_quiet (fail)
        go_wp2
        go_ret2
        exact ⟨⟨_, rfl⟩, below_one _ _ _⟩
    · have n0 : (n == 0) = false := beq_eq_false_iff_ne.2 hn
      by_cases hg : 1 ≤ n
      · have g1 : decide (1 ≤ n) = true := decide_eq_true hg
        obtain ⟨b, hq⟩ : ∃ b, okB 5 n s = b := ⟨_, rfl⟩
        rw [hq]
        simp [okB, s0, s1, n0, hg] at hq
        subst hq
        clear hs hn hg
        go_enter Try.func84, Try.ntmps84
        go_wp2
        go_quiet (fail)
        go_wp2
        go_ret2
        exact ⟨⟨_, rfl⟩, below_one _ _ _⟩
      · have g1 : decide (1 ≤ n) = false := decide_eq_false hg
        obtain ⟨b, hq⟩ : ∃ b, okB 5 n s = b := ⟨_, rfl⟩
        rw [hq]
        simp [okB, s0, s1, n0, hg] at hq
        subst hq
        clear hs hn hg
        go_enter Try.func84, Try.ntmps84
        go_wp2
        go_quiet (fail)
        go_wp2
        go_ret2
        exact ⟨⟨_, rfl⟩, below_one _ _ _⟩
  · obtain ⟨s0, s1⟩ := emp_f hs
    by_cases hn : n = 0
    · have n0 : (n == 0) = true := beq_iff_eq.2 hn
      by_cases hg : 1 ≤ n
      · have g1 : decide (1 ≤ n) = true := decide_eq_true hg
        omega
      · have g1 : decide (1 ≤ n) = false := decide_eq_false hg
        obtain ⟨b, hq⟩ : ∃ b, okB 5 n s = b := ⟨_, rfl⟩
        rw [hq]
        simp [okB, s0, s1, n0, hg] at hq
        subst hq
        clear hs hn hg
        go_enter Try.func84, Try.ntmps84
        go_wp2
        go_quiet (fail)
        go_wp2
        go_ret2
        exact ⟨⟨_, rfl⟩, below_one _ _ _⟩
    · have n0 : (n == 0) = false := beq_eq_false_iff_ne.2 hn
      by_cases hg : 1 ≤ n
      · have g1 : decide (1 ≤ n) = true := decide_eq_true hg
        obtain ⟨b, hq⟩ : ∃ b, okB 5 n s = b := ⟨_, rfl⟩
        rw [hq]
        simp [okB, s0, s1, n0, hg] at hq
        subst hq
        clear hs hn hg
        go_enter Try.func84, Try.ntmps84
        go_wp2
        go_quiet (fail)
        go_wp2
        go_ret2
        exact ⟨⟨_, rfl⟩, below_one _ _ _⟩
      · have g1 : decide (1 ≤ n) = false := decide_eq_false hg
        obtain ⟨b, hq⟩ : ∃ b, okB 5 n s = b := ⟨_, rfl⟩
        rw [hq]
        simp [okB, s0, s1, n0, hg] at hq
        subst hq
        clear hs hn hg
        go_enter Try.func84, Try.ntmps84
        go_wp2
        go_quiet (fail)
        go_wp2
        go_ret2
        exact ⟨⟨_, rfl⟩, below_one _ _ _⟩

set_option maxHeartbeats 4000000 in
set_option maxRecDepth 100000 in
theorem box_6 (n : Int) (s : ByteArray) (w : World) :
    Calls Try.prog 84 #[.agg #[.int .i64 6, .int .i64 n, .string s]] w (BoxPost w (okB 6 n s)) := by
  by_cases hs : s.toList = []
  · obtain ⟨s0, s1⟩ := emp_t hs
    by_cases hn : n = 0
    · have n0 : (n == 0) = true := beq_iff_eq.2 hn
      by_cases hg : 1 ≤ n
      · have g1 : decide (1 ≤ n) = true := decide_eq_true hg
        omega
      · have g1 : decide (1 ≤ n) = false := decide_eq_false hg
        obtain ⟨b, hq⟩ : ∃ b, okB 6 n s = b := ⟨_, rfl⟩
        rw [hq]
        simp [okB, s0, s1, n0, hg] at hq
        subst hq
        clear hs hn hg
        go_enter Try.func84, Try.ntmps84
        go_wp2
        go_quiet (fail)
        go_wp2
        go_ret2
        exact ⟨⟨_, rfl⟩, below_one _ _ _⟩
    · have n0 : (n == 0) = false := beq_eq_false_iff_ne.2 hn
      by_cases hg : 1 ≤ n
      · have g1 : decide (1 ≤ n) = true := decide_eq_true hg
        obtain ⟨b, hq⟩ : ∃ b, okB 6 n s = b := ⟨_, rfl⟩
        rw [hq]
        simp [okB, s0, s1, n0, hg] at hq
        subst hq
        clear hs hn hg
        go_enter Try.func84, Try.ntmps84
        go_wp2
        go_quiet (fail)
        go_wp2
        go_ret2
        exact ⟨⟨_, rfl⟩, below_one _ _ _⟩
      · have g1 : decide (1 ≤ n) = false := decide_eq_false hg
        obtain ⟨b, hq⟩ : ∃ b, okB 6 n s = b := ⟨_, rfl⟩
        rw [hq]
        simp [okB, s0, s1, n0, hg] at hq
        subst hq
        clear hs hn hg
        go_enter Try.func84, Try.ntmps84
        go_wp2
        go_quiet (fail)
        go_wp2
        go_ret2
        exact ⟨⟨_, rfl⟩, below_one _ _ _⟩
  · obtain ⟨s0, s1⟩ := emp_f hs
    by_cases hn : n = 0
    · have n0 : (n == 0) = true := beq_iff_eq.2 hn
      by_cases hg : 1 ≤ n
      · have g1 : decide (1 ≤ n) = true := decide_eq_true hg
        omega
      · have g1 : decide (1 ≤ n) = false := decide_eq_false hg
        obtain ⟨b, hq⟩ : ∃ b, okB 6 n s = b := ⟨_, rfl⟩
        rw [hq]
        simp [okB, s0, s1, n0, hg] at hq
        subst hq
        clear hs hn hg
        go_enter Try.func84, Try.ntmps84
        go_wp2
        go_quiet (fail)
        go_wp2
        go_ret2
        exact ⟨⟨_, rfl⟩, below_one _ _ _⟩
    · have n0 : (n == 0) = false := beq_eq_false_iff_ne.2 hn
      by_cases hg : 1 ≤ n
      · have g1 : decide (1 ≤ n) = true := decide_eq_true hg
        obtain ⟨b, hq⟩ : ∃ b, okB 6 n s = b := ⟨_, rfl⟩
        rw [hq]
        simp [okB, s0, s1, n0, hg] at hq
        subst hq
        clear hs hn hg
        go_enter Try.func84, Try.ntmps84
        go_wp2
        go_quiet (fail)
        go_wp2
        go_ret2
        exact ⟨⟨_, rfl⟩, below_one _ _ _⟩
      · have g1 : decide (1 ≤ n) = false := decide_eq_false hg
        obtain ⟨b, hq⟩ : ∃ b, okB 6 n s = b := ⟨_, rfl⟩
        rw [hq]
        simp [okB, s0, s1, n0, hg] at hq
        subst hq
        clear hs hn hg
        go_enter Try.func84, Try.ntmps84
        go_wp2
        go_quiet (fail)
        go_wp2
        go_ret2
        exact ⟨⟨_, rfl⟩, below_one _ _ _⟩

set_option maxHeartbeats 4000000 in
set_option maxRecDepth 100000 in
theorem box_other (k n : Int) (s : ByteArray) (w : World) (e0 : (k == 0) = false) (e1 : (k == 1) = false) (e2 : (k == 2) = false) (e3 : (k == 3) = false) (e4 : (k == 4) = false) (e5 : (k == 5) = false) (e6 : (k == 6) = false) :
    Calls Try.prog 84 #[.agg #[.int .i64 k, .int .i64 n, .string s]] w (BoxPost w (okB k n s)) := by
  by_cases hs : s.toList = []
  · obtain ⟨s0, s1⟩ := emp_t hs
    by_cases hn : n = 0
    · have n0 : (n == 0) = true := beq_iff_eq.2 hn
      obtain ⟨b, hq⟩ : ∃ b, okB k n s = b := ⟨_, rfl⟩
      rw [hq]
      simp [okB, s0, s1, n0, beq_eq_false_iff_ne.1 e0, beq_eq_false_iff_ne.1 e1, beq_eq_false_iff_ne.1 e2, beq_eq_false_iff_ne.1 e3, beq_eq_false_iff_ne.1 e4, beq_eq_false_iff_ne.1 e5, beq_eq_false_iff_ne.1 e6] at hq
      subst hq
      clear hs hn
      go_enter Try.func84, Try.ntmps84
      go_wp2
      go_ret2
      exact ⟨⟨_, rfl⟩, below_one0 _ _⟩
    · have n0 : (n == 0) = false := beq_eq_false_iff_ne.2 hn
      obtain ⟨b, hq⟩ : ∃ b, okB k n s = b := ⟨_, rfl⟩
      rw [hq]
      simp [okB, s0, s1, n0, beq_eq_false_iff_ne.1 e0, beq_eq_false_iff_ne.1 e1, beq_eq_false_iff_ne.1 e2, beq_eq_false_iff_ne.1 e3, beq_eq_false_iff_ne.1 e4, beq_eq_false_iff_ne.1 e5, beq_eq_false_iff_ne.1 e6] at hq
      subst hq
      clear hs hn
      go_enter Try.func84, Try.ntmps84
      go_wp2
      go_ret2
      exact ⟨⟨_, rfl⟩, below_one0 _ _⟩
  · obtain ⟨s0, s1⟩ := emp_f hs
    by_cases hn : n = 0
    · have n0 : (n == 0) = true := beq_iff_eq.2 hn
      obtain ⟨b, hq⟩ : ∃ b, okB k n s = b := ⟨_, rfl⟩
      rw [hq]
      simp [okB, s0, s1, n0, beq_eq_false_iff_ne.1 e0, beq_eq_false_iff_ne.1 e1, beq_eq_false_iff_ne.1 e2, beq_eq_false_iff_ne.1 e3, beq_eq_false_iff_ne.1 e4, beq_eq_false_iff_ne.1 e5, beq_eq_false_iff_ne.1 e6] at hq
      subst hq
      clear hs hn
      go_enter Try.func84, Try.ntmps84
      go_wp2
      go_ret2
      exact ⟨⟨_, rfl⟩, below_one0 _ _⟩
    · have n0 : (n == 0) = false := beq_eq_false_iff_ne.2 hn
      obtain ⟨b, hq⟩ : ∃ b, okB k n s = b := ⟨_, rfl⟩
      rw [hq]
      simp [okB, s0, s1, n0, beq_eq_false_iff_ne.1 e0, beq_eq_false_iff_ne.1 e1, beq_eq_false_iff_ne.1 e2, beq_eq_false_iff_ne.1 e3, beq_eq_false_iff_ne.1 e4, beq_eq_false_iff_ne.1 e5, beq_eq_false_iff_ne.1 e6] at hq
      subst hq
      clear hs hn
      go_enter Try.func84, Try.ntmps84
      go_wp2
      go_ret2
      exact ⟨⟨_, rfl⟩, below_one0 _ _⟩


theorem box_any (k n : Int) (s : ByteArray) (w : World) :
    Calls Try.prog 84 #[.agg #[.int .i64 k, .int .i64 n, .string s]] w (BoxPost w (okB k n s)) := by
  by_cases h0 : k = 0
  · subst h0; exact box_0 n s w
  by_cases h1 : k = 1
  · subst h1; exact box_1 n s w
  by_cases h2 : k = 2
  · subst h2; exact box_2 n s w
  by_cases h3 : k = 3
  · subst h3; exact box_3 n s w
  by_cases h4 : k = 4
  · subst h4; exact box_4 n s w
  by_cases h5 : k = 5
  · subst h5; exact box_5 n s w
  by_cases h6 : k = 6
  · subst h6; exact box_6 n s w
  exact box_other k n s w (by simp [h0]) (by simp [h1]) (by simp [h2]) (by simp [h3]) (by simp [h4]) (by simp [h5]) (by simp [h6])

def box_Check.f (k n : Int) (s : ByteArray) : Option Int := some (if okB k n s = true then 0 else 2)

set_option maxHeartbeats 400000 in
set_option maxRecDepth 100000 in
theorem box_Check.calls (a0_0 : Int) (a0_1 : Int) (a0_2 : ByteArray) (r : Int) (w : World) (h : box_Check.f a0_0 a0_1 a0_2 = some r) :
    Calls Try.prog 64 #[.agg #[.int .i64 a0_0, .int .i64 a0_1, .string a0_2]] w fun e w' => e = .returned (.int .i64 r) ∧ Below w.heap.size w w' := by
  obtain ⟨b, hb⟩ : ∃ b, okB a0_0 a0_1 a0_2 = b := ⟨_, rfl⟩
  obtain rfl := Option.some.inj h
  rw [hb]
  clear h
  have HB := Lib.hid hb
  clear hb
  go_enter Try.func64, Try.ntmps64
  cases b
  all_goals
    go_wp2_with (go_at_call 84; refine (box_any _ _ _ _).mono ?_; rintro e w1 ⟨⟨v, rfl⟩, hb⟩; rw [HB.out])
    go_ret
    exact ⟨rfl, below_then (below_one0 _ _) (by simp) hb⟩

end Go.Proofs.Ytlmmhlabacghnaa.PH
