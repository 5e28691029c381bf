/- nodes: the reference's New, weakly; begin. -/
import Derived.Test.YtlmmhlabacghnaaNG
namespace Go.Proofs.Ytlmmhlabacghnaa.PH
open Go.RowKit Go.Proofs.YtlmmhlabacghnaaW.PrintWords Go.Proofs.YtlmmhlabacghnaaW.PrintLast Go.Proofs.YtlmmhlabacghnaaW.PrintMore
open Go.Proofs.Ytlmmhlabacghnaa.HM
set_option linter.unusedVariables false
set_option linter.unusedSimpArgs false

theorem make_any (ty el : TypeId) (z : Value) (sz by_ : Nat) (ht : Try.prog.underlying ty = some (.slice el)) (hi : (Try.prog.info? el).map (fun i => (i.zero, i.size, i.bytes)) = some (some z, sz, by_)) (hb : by_ ≤ 100) (n : Nat) (hn : n ≤ 65536) :
    ∃ o, ∀ w : World, Sem.run Try.prog (Instr.makeSlice ty (.int .i64 (n : Int)) (.int .i64 (n : Int))) w = .ok (.slice (some ⟨w.heap.size, 0, none⟩) n n) (w.alloc o) := by
  obtain ⟨i0, hi0, hz0⟩ := Option.map_eq_some_iff.1 hi
  simp only [Prod.mk.injEq] at hz0
  have hb2 : (i0.bytes : Int) * n ≤ 281474976710656 := by
    rw [hz0.2.2]
    have h1 : (by_ : Int) ≤ 100 := by omega
    have h2 : (by_ : Int) * n ≤ 100 * n := Int.mul_le_mul_of_nonneg_right h1 (by omega)
    omega
  refine ⟨.cells (madeCells z.cells (n * i0.size)) el, fun w => ?_⟩
  have h := run_make (P := Try.prog) w ty el i0 z ht hi0 hz0.1 .i64 .i64 (n : Int) (n : Int) (by omega) (Int.le_refl _) hb2 (by omega)
  rw [Int.toNat_natCast] at h
  exact h
set_option maxHeartbeats 4000000 in
set_option maxRecDepth 100000 in
theorem refnew_call (w : World) (n : Nat) (hn : n ≤ 65536) : Calls Try.prog 79 #[.int .i64 n] w fun e w' => (∃ q, e = .returned (.pointer (some ⟨q, 0, none⟩))) ∧ Below w.heap.size w w' := by
  obtain ⟨o1, h1⟩ := make_any 71 30 (kv z30) 3 32 (by kernel_rfl) (by kernel_rfl) (by decide) n hn
  obtain ⟨o3, h3⟩ := make_any 86 49 (.slice none 0 0) 1 24 (by kernel_rfl) (by kernel_rfl) (by decide) n hn
  have hu := Try.underlying88
  go_enter Try.func79, Try.ntmps79
  go_wp2_with fail
  go_region_with fail
  all_goals
    go_wp2_with fail
    go_ret
    exact ⟨⟨_, rfl⟩, by repeat (first | exact Below.refl _ _ | apply below_alloc | apply pw_below_drewN | apply below_drew1)⟩
theorem right_eq {n : Nat} (h : Pow n) : trestleref07_Right.f 18 n = some true := by
  have h1 := pow_range h
  unfold trestleref07_Right.f
  rw [if_neg (by omega), power_eq _ 18 (Nat.le_refl _), decide_eq_true h]
  rfl
theorem and_zero {n : Nat} (h : Pow n) : Go.bits .and .i64 (n : Int) ((n : Int) - 1) = 0 := by
  have h1 := pow_range h
  have h2 := (land_pow n (by omega) (by omega)).2 h
  have h3 := and_i64 (n : Int) ((n : Int) - 1) (by omega) (by omega) (by omega) (by omega)
  rw [h3, Int.toNat_natCast, show ((n : Int) - 1).toNat = n - 1 by omega, h2]
  rfl
set_option maxHeartbeats 4000000 in
set_option maxRecDepth 100000 in
theorem begin_call (w : World) (n : Nat) (hp1 : Pow n) (hn : n ≤ 4096) : Calls Try.prog 45 #[.int .i64 n] w fun e w' => ∃ g a cap q, e = .returned (.tuple #[.pointer (some ⟨g, 0, none⟩), .pointer (some ⟨q, 0, none⟩), .bool true]) ∧ St w g a cap (List.replicate n zN) n w' := by
  have h1 := pow_range hp1
  have d1 : decide ((n : Int) > 4096) = false := decide_eq_false (by omega)
  have d2 : decide (4096 < (n : Int)) = false := decide_eq_false (by omega)
  have HR := Lib.hid (right_eq hp1)
  have HZ := Lib.hid (and_zero hp1)
  clear hp1
  go_enter Try.func45, Try.ntmps45
  go_wp2_with fail
  refine (trestleref07_Right.calls 18 n true _ HR.out).mono ?_
  rintro e w1 ⟨rfl, nd1, rfl⟩
  go_wp2_with fail
  refine (new_call _ n (by omega) HZ.out).mono ?_
  rintro e w2 ⟨g, a, cap, rfl, hI, hb, hg⟩
  have I2 : RowKit.Hid (St w g a cap (List.replicate n zN) n w2) := Lib.hid ⟨hI, (by have h := hb; exact (pw_below_drewN (Below.refl w.heap.size w) nd1).trans h), hg⟩
  clear hI hb hg
  go_wp2_with fail
  refine (refnew_call _ n (by omega)).mono ?_
  rintro e w3 ⟨⟨q, rfl⟩, hb⟩
  have I3 := Lib.hid (I2.out.below hb)
  clear hb I2
  go_wp2_with fail
  go_ret3
  exact ⟨_, _, _, _, rfl, I3.out⟩
end Go.Proofs.Ytlmmhlabacghnaa.PH
