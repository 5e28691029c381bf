/- What the laws of layer 17 share, in plain numbers: the document's fixed answers, the place that a number means, the bytes that stand within a rune. -/
import Derived.Test.YtlmmhlabacghnaaDoorPRx16
import Derived.Test.YtlmmhlabacghnaaDoorRA
namespace Go.Proofs.YtlmmhlabacghnaaDoor.UP
open Go.RowKit Go.Proofs.YtlmmhlabacghnaaDoor.PR Go.Proofs.YtlmmhlabacghnaaDoor.RuneMath Go.Proofs.YtlmmhlabacghnaaDoor.RA Go.Proofs.YtlmmhlabacghnaaDoorW.PrintWords Go.Proofs.YtlmmhlabacghnaaDoorW.PrintLast Go.Proofs.YtlmmhlabacghnaaDoorW.PrintMore
set_option linter.unusedVariables false
set_option linter.unusedSimpArgs false

theorem more {α : Type} {f : Nat → Option α} {r : α} {n : Nat} (hm : ∀ k, LeO (f k) (f (k + 1))) (h : f n = some r) : ∀ k, f (k + n) = some r
  | 0 => by rw [Nat.zero_add]; exact h
  | k + 1 => by rw [show k + 1 + n = (k + n) + 1 by omega]; exact hm _ _ (more hm h k)
theorem fixed_20 : trestlelaw17_fixed.f 20 = some true := by decide +kernel
theorem fixed_ok (k : Nat) : trestlelaw17_fixed.f (k + 20) = some true := more trestlelaw17_fixed.mono fixed_20 k

theorem int_wf {i : Int} (h : (Lit.int .i64 i).wf = true) : -9223372036854775808 ≤ i ∧ i ≤ 9223372036854775807 := by
  have hmin : IntKind.i64.min = -9223372036854775808 := rfl
  have hmax : IntKind.i64.max = 9223372036854775807 := rfl
  simp only [Lit.wf, Bool.and_eq_true, decide_eq_true_eq] at h
  omega
theorem means_ref (i : Int) (n : Nat) (hi : -9223372036854775808 ≤ i) (hn : n ≤ 140737488355328) : trestleref17_Means.f i n = some (meansV i n) := by
  unfold trestleref17_Means.f meansV
  by_cases h : i ≥ 0
  · rw [if_pos h, if_pos (by omega)]
  · rw [w64_id (-(n : Int)) (by omega) (by omega), if_neg h]
    rw [if_neg (show ¬ 0 ≤ i by omega)]
    by_cases h2 : i ≥ -(n : Int)
    · rw [if_pos h2, if_pos (by omega), w64_id ((n : Int) + 1) (by omega) (by omega), w64_id _ (by omega) (by omega)]
    · rw [if_neg h2, if_neg (by omega)]
theorem means_prog (i : Int) (n : Nat) (hi : -9223372036854775808 ≤ i) (hn : n ≤ 140737488355328) : utflib_means.f i n = some (meansV i n) := by
  have := means_ref i n hi hn
  unfold trestleref17_Means.f at this
  unfold utflib_means.f
  exact this
theorem means_le (i : Int) (n : Nat) (hi : i ≤ 9223372036854775807) (hn : n ≤ 140737488355328) : 0 ≤ meansV i n ∧ meansV i n ≤ 9223372036854775807 := by
  unfold meansV
  split
  · omega
  split
  · omega
  · omega
theorem same_ints (l : List Int) (hl : l.length ≤ 4611686018427387904) : ∀ (f i k : Nat), l.length - i ≤ f → f + 1 ≤ k → trestleref04_SameInts.l0 k l l i = some true
  | 0, i, k + 1, hf, _ => by
    simp only [trestleref04_SameInts.l0]
    rw [if_neg (by omega)]
  | f + 1, i, k + 1, hf, hk => by
    simp only [trestleref04_SameInts.l0]
    by_cases h : (i : Int) < (l.length : Int)
    · rw [if_pos h, if_pos (by omega), if_pos h, w64_id _ (by omega) (by omega)]
      rw [if_pos trivial]
      exact same_ints l hl f (i + 1) k (by omega) (by omega)
    · rw [if_neg h]
  | _, _, 0, _, hk => by omega
theorem same_ints_f (l : List Int) (hl : l.length ≤ 4611686018427387904) (k : Nat) (hk : l.length + 1 ≤ k) : trestleref04_SameInts.f k l l = some true := by
  unfold trestleref04_SameInts.f
  rw [if_pos rfl]
  exact same_ints l hl l.length 0 k (by omega) hk
end Go.Proofs.YtlmmhlabacghnaaDoor.UP
