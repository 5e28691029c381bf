/- The plain law of the hash, third part: rows of main positions. -/
import Derived.Test.YtlmmhlabacghnaaHM2
import Derived.Test.YtlmmhlabacghnaaPHx9
import Derived.Test.YtlmmhlabacghnaaPHx11
namespace Go.Proofs.Ytlmmhlabacghnaa.HM
open Go.RowKit Go.Proofs.Ytlmmhlabacghnaa.PH Go.Proofs.YtlmmhlabacghnaaW.PrintWords Go.Proofs.YtlmmhlabacghnaaW.PrintLast
set_option linter.unusedVariables false
set_option linter.unusedSimpArgs false

/-- The row's i-th number. -/
def rowAt (first size : Int) (i : Nat) : Int := plc 2 (wrap64 (first + i)) (⟨#[]⟩ : ByteArray) size
def rowTo (first size : Int) (n : Nat) : List Int := (List.range n).map (rowAt first size)
theorem rowTo_succ (first size : Int) (n : Nat) : rowTo first size (n + 1) = rowTo first size n ++ [rowAt first size n] := by
  unfold rowTo
  rw [List.range_succ, List.map_append]
  rfl
theorem rowTo_length (first size : Int) (n : Nat) : (rowTo first size n).length = n := by simp [rowTo]
theorem rowTo_rd (first size : Int) (n i : Nat) (h : i < n) : rd (rowTo first size n) i = rowAt first size i := by
  simp [rd, rowTo, h]

theorem row_l0 {first size : Int} (hp : Pow size) (n : Nat) (hn : n ≤ 1000) (d : Nat) : ∀ (k i : Nat), i ≤ n → n - i = d → d < k →
    hash_Row.l0 k first size (rowTo first size i) n i = some (rowTo first size n, 0) := by
  induction d with
  | zero =>
    intro k i hi hd hk
    obtain ⟨k, rfl⟩ : ∃ m, k = m + 1 := ⟨k - 1, by omega⟩
    obtain rfl : i = n := by omega
    simp only [hash_Row.l0]
    rw [if_neg (by omega)]
  | succ d ih =>
    intro k i hi hd hk
    obtain ⟨k, rfl⟩ : ∃ m, k = m + 1 := ⟨k - 1, by omega⟩
    simp only [hash_Row.l0]
    rw [if_pos (by omega), main_eq hp (by omega) (by omega)]
    simp only [Option.bind_some]
    rw [rowTo_length, if_pos (by omega), w64_id (i + 1) (by omega) (by omega)]
    have := ih k (i + 1) (by omega) (by omega) (by omega)
    rw [rowTo_succ] at this
    exact this

theorem rrow_l0 {first size : Int} (hp : Pow size) (n : Nat) (hn : n ≤ 1000) (d : Nat) : ∀ (k i : Nat), i ≤ n → n - i = d → d + 10002 < k →
    trestleref04_Row.l0 k first n size (rowTo first size i) i = some (rowTo first size n, 0) := by
  induction d with
  | zero =>
    intro k i hi hd hk
    obtain ⟨k, rfl⟩ : ∃ m, k = m + 1 := ⟨k - 1, by omega⟩
    obtain rfl : i = n := by omega
    simp only [trestleref04_Row.l0]
    rw [if_neg (by omega)]
  | succ d ih =>
    intro k i hi hd hk
    obtain ⟨k, rfl⟩ : ∃ m, k = m + 1 := ⟨k - 1, by omega⟩
    simp only [trestleref04_Row.l0, trestleref03_I.f]
    rw [if_pos (by omega)]
    simp only [Option.bind_some]
    rw [place_eq hp (by omega) (by omega) k (by omega)]
    simp only [Option.bind_some]
    rw [rowTo_length, if_pos (by omega), w64_id (i + 1) (by omega) (by omega)]
    have := ih k (i + 1) (by omega) (by omega) (by omega)
    rw [rowTo_succ] at this
    exact this

/-- What Row answers. -/
def rowOf (first n size : Int) : List Int × Int :=
  if 0 ≤ n ∧ n ≤ 1000 ∧ Pow size then (rowTo first size n.toNat, 0) else ([], 1)

theorem Row_eq (first n size : Int) (hs : -9223372036854775808 ≤ size ∧ size ≤ 9223372036854775807) (k : Nat) (hk : 20000 ≤ k) : hash_Row.f k first n size = some (rowOf first n size) := by
  obtain ⟨k, rfl⟩ : ∃ m, k = m + 1 := ⟨k - 1, by omega⟩
  unfold hash_Row.f rowOf
  by_cases h0 : n < 0
  · rw [if_pos h0, if_neg (by omega)]
    simp [hash_Row.j0]
  rw [if_neg h0]
  by_cases h1 : n > 1000
  · rw [if_pos h1, if_neg (by omega)]
    simp [hash_Row.j0]
  rw [if_neg h1, parts_eq size hs]
  simp only [Option.bind_some]
  by_cases hp : Pow size
  · rw [decide_eq_true hp, if_pos ⟨by omega, by omega, hp⟩]
    simp only [hash_Row.j0]
    rw [if_neg (by decide)]
    have := row_l0 (first := first) hp n.toNat (by omega) n.toNat k 0 (by omega) (by omega) (by omega)
    rw [Int.toNat_of_nonneg (by omega)] at this
    exact this
  · rw [decide_eq_false hp, if_neg (by rintro ⟨_, _, h⟩; exact hp h)]
    simp only [hash_Row.j0]
    rw [if_pos (by decide)]

theorem RRow_eq (first n size : Int) (k : Nat) (hk : 20000 ≤ k) : trestleref04_Row.f k first n size = some (rowOf first n size) := by
  unfold trestleref04_Row.f rowOf
  by_cases h0 : n < 0
  · obtain ⟨k, rfl⟩ : ∃ m, k = m + 1 := ⟨k - 1, by omega⟩
    rw [if_pos h0, if_neg (by omega)]
    simp [trestleref04_Row.j0]
  rw [if_neg h0]
  by_cases h1 : n > 1000
  · obtain ⟨k, rfl⟩ : ∃ m, k = m + 1 := ⟨k - 1, by omega⟩
    rw [if_pos h1, if_neg (by omega)]
    simp [trestleref04_Row.j0]
  rw [if_neg h1, power_eq size k (by omega)]
  simp only [Option.bind_some]
  obtain ⟨k, rfl⟩ : ∃ m, k = m + 1 := ⟨k - 1, by omega⟩
  by_cases hp : Pow size
  · rw [decide_eq_true hp, if_pos ⟨by omega, by omega, hp⟩]
    simp only [trestleref04_Row.j0]
    rw [if_neg (by decide)]
    have := rrow_l0 (first := first) hp n.toNat (by omega) n.toNat k 0 (by omega) (by omega) (by omega)
    rw [Int.toNat_of_nonneg (by omega)] at this
    exact this
  · rw [decide_eq_false hp, if_neg (by rintro ⟨_, _, h⟩; exact hp h)]
    simp only [trestleref04_Row.j0]
    rw [if_pos (by decide)]

theorem rowOf_length (first n size : Int) : (rowOf first n size).1.length ≤ 1000 := by
  unfold rowOf
  split
  · rename_i h
    rw [rowTo_length]
    omega
  · simp

theorem same_l0 (l : List Int) (hl : l.length ≤ 1000) (d : Nat) : ∀ (k i : Nat), i ≤ l.length → l.length - i = d → d < k → trestleref04_SameInts.l0 k l l i = some true := by
  induction d with
  | zero =>
    intro k i hi hd hk
    obtain ⟨k, rfl⟩ : ∃ m, k = m + 1 := ⟨k - 1, by omega⟩
    simp only [trestleref04_SameInts.l0]
    rw [if_neg (by omega)]
  | succ d ih =>
    intro k i hi hd hk
    obtain ⟨k, rfl⟩ : ∃ m, k = m + 1 := ⟨k - 1, by omega⟩
    simp only [trestleref04_SameInts.l0]
    rw [if_pos (by omega), if_pos (by omega), if_pos (by omega), if_pos trivial, w64_id (i + 1) (by omega) (by omega)]
    exact ih k (i + 1) (by omega) (by omega) (by omega)
theorem same_eq (l : List Int) (hl : l.length ≤ 1000) (k : Nat) (hk : 1000 < k) : trestleref04_SameInts.f k l l = some true := by
  unfold trestleref04_SameInts.f
  rw [if_pos rfl]
  exact same_l0 l hl l.length k 0 (by omega) (by omega) (by omega)

theorem wf_i64 {a : Int} (h : (Lit.int .i64 a).wf = true) : -9223372036854775808 ≤ a ∧ a ≤ 9223372036854775807 := by
  have hmin : IntKind.i64.min = -9223372036854775808 := rfl
  have hmax : IntKind.i64.max = 9223372036854775807 := rfl
  simp only [Lit.wf, Bool.and_eq_true, decide_eq_true_eq] at h
  omega

theorem hashRows (first n size : Int) (h : (Lit.int .i64 size).wf = true) : ∃ k, trestlelaw04_HashRows.f k first n size = some true := by
  refine ⟨20000, ?_⟩
  unfold trestlelaw04_HashRows.f
  rw [Row_eq first n size (wf_i64 h) 20000 (by omega), RRow_eq first n size 20000 (by omega), fixed_ok]
  simp only [Option.bind_some]
  rw [if_pos trivial, if_pos trivial, same_eq _ (rowOf_length first n size) 20000 (by omega)]
  rfl

theorem again_l0 (b w : List Int) (hs : b = w) (hb : b.length ≤ 1000) (d : Nat) : ∀ (k i : Nat) (a : List Int), a.length ≤ 1000 → i ≤ a.length → a.length - i = d → d + 1002 < k →
    trestlelaw04_HashAgain.l0 k a b w i = some true := by
  subst hs
  induction d with
  | zero =>
    intro k i a ha hi hd hk
    obtain ⟨k, rfl⟩ : ∃ m, k = m + 1 := ⟨k - 1, by omega⟩
    simp only [trestlelaw04_HashAgain.l0]
    rw [if_neg (by omega), same_eq _ hb k (by omega)]
    rfl
  | succ d ih =>
    intro k i a ha hi hd hk
    obtain ⟨k, rfl⟩ : ∃ m, k = m + 1 := ⟨k - 1, by omega⟩
    simp only [trestlelaw04_HashAgain.l0]
    rw [if_pos (by omega), if_pos (by omega), w64_id (i + 1) (by omega) (by omega)]
    exact ih k (i + 1) _ (by simpa using ha) (by simp; omega) (by simp; omega) (by omega)

theorem hashAgain (first n size : Int) (h : (Lit.int .i64 size).wf = true) : ∃ k, trestlelaw04_HashAgain.f k first n size = some true := by
  refine ⟨20002, ?_⟩
  have hl := rowOf_length first n size
  unfold trestlelaw04_HashAgain.f
  rw [Row_eq first n size (wf_i64 h) 20002 (by omega), RRow_eq first n size 20002 (by omega), fixed_ok]
  simp only [Option.bind_some]
  rw [if_pos trivial, if_pos trivial, same_eq _ hl 20002 (by omega)]
  simp only [Option.bind_some]
  show trestlelaw04_HashAgain.j0 (20001 + 1) _ _ _ _ = _
  simp only [trestlelaw04_HashAgain.j0]
  rw [if_neg (by decide)]
  exact again_l0 _ _ rfl hl _ 20001 0 _ hl (by omega) rfl (by omega)

end Go.Proofs.Ytlmmhlabacghnaa.HM
