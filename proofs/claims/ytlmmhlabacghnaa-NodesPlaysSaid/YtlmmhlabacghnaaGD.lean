import Derived.Test.YtlmmhlabacghnaaGC
import Derived.WalkKit
import Derived.ProofKit
import Derived.OpenShut
import Derived.ChangeOld
import Derived.Deep.Slices
import Derived.DataReads
/- nodes: the reference's New, weakly; begin. -/
namespace Go.Proofs.Ytlmmhlabacghnaa.PH
open Go.RowKit Go.Proofs.YtlmmhlabacghnaaW.PrintWords Go.Proofs.YtlmmhlabacghnaaW.PrintLast Go.Proofs.YtlmmhlabacghnaaW.PrintMore
open Go.Proofs.Ytlmmhlabacghnaa.HM
set_option linter.unusedVariables false
set_option linter.unusedSimpArgs false

theorem make_any (ty el : TypeId) (z : Value) (sz by_ : Nat) (ht : Try.prog.underlying ty = some (.slice el)) (hi : (Try.prog.info? el).map (fun i => (i.zero, i.size, i.bytes)) = some (some z, sz, by_)) (hb : by_ ≤ 100) (n : Nat) (hn : n ≤ 65536) :
    ∃ o, ∀ w : World, Sem.run Try.prog (Instr.makeSlice ty (.int .i64 (n : Int)) (.int .i64 (n : Int))) w = .ok (.slice (some ⟨w.heap.size, 0, none⟩) n n) (w.alloc o) := by
  obtain ⟨i0, hi0, hz0⟩ := Option.map_eq_some_iff.1 hi
  simp only [Prod.mk.injEq] at hz0
  have hb2 : (i0.bytes : Int) * n ≤ 281474976710656 := by
    rw [hz0.2.2]
    have h1 : (by_ : Int) ≤ 100 := by omega
    have h2 : (by_ : Int) * n ≤ 100 * n := Int.mul_le_mul_of_nonneg_right h1 (by omega)
    omega
  refine ⟨.cells (madeCells z.cells (n * i0.size)) el, fun w => ?_⟩
  have h := run_make (P := Try.prog) w ty el i0 z ht hi0 hz0.1 .i64 .i64 (n : Int) (n : Int) (by omega) (Int.le_refl _) hb2 (by omega)
  rw [Int.toNat_natCast] at h
  exact h
set_option maxHeartbeats 4000000 in
set_option maxRecDepth 100000 in
theorem refnew_call (w : World) (n : Nat) (hn : n ≤ 65536) : Calls Try.prog 79 #[.int .i64 n] w fun e w' => (∃ q, e = .returned (.pointer (some ⟨q, 0, none⟩))) ∧ Below w.heap.size w w' := by
  obtain ⟨o1, h1⟩ := make_any 71 30 (kv z30) 3 32 (by kernel_rfl) (by kernel_rfl) (by decide) n hn
  obtain ⟨o3, h3⟩ := make_any 86 49 (.slice none 0 0) 1 24 (by kernel_rfl) (by kernel_rfl) (by decide) n hn
  have hu := Try.underlying88
  go_enter Try.func79, Try.ntmps79
  go_wp2_with fail
  go_region_with fail
  all_goals
    go_wp2_with fail
    go_ret
    exact ⟨⟨_, rfl⟩, by repeat (first | exact Below.refl _ _ | apply below_alloc | apply pw_below_drewN | apply below_drew1)⟩
theorem right_eq {n : Nat} (h : Pow n) : trestleref07_Right.f 18 n = some true := by
  have h1 := pow_range h
  unfold trestleref07_Right.f
  rw [if_neg (by omega), power_eq _ 18 (Nat.le_refl _), decide_eq_true h]
  rfl
theorem and_zero {n : Nat} (h : Pow n) : Go.bits .and .i64 (n : Int) ((n : Int) - 1) = 0 := by
  have h1 := pow_range h
  have h2 := (land_pow n (by omega) (by omega)).2 h
  have h3 := and_i64 (n : Int) ((n : Int) - 1) (by omega) (by omega) (by omega) (by omega)
  rw [h3, Int.toNat_natCast, show ((n : Int) - 1).toNat = n - 1 by omega, h2]
  rfl
set_option maxHeartbeats 4000000 in
set_option maxRecDepth 100000 in
theorem begin_call (w : World) (n : Nat) (hp1 : Pow n) (hn : n ≤ 4096) : Calls Try.prog 45 #[.int .i64 n] w fun e w' => ∃ g a cap q, e = .returned (.tuple #[.pointer (some ⟨g, 0, none⟩), .pointer (some ⟨q, 0, none⟩), .bool true]) ∧ St w g a cap (List.replicate n zN) n w' := by
  have h1 := pow_range hp1
  have d1 : decide ((n : Int) > 4096) = false := decide_eq_false (by omega)
  have d2 : decide (4096 < (n : Int)) = false := decide_eq_false (by omega)
  have HR := Lib.hid (right_eq hp1)
  have HZ := Lib.hid (and_zero hp1)
  clear hp1
  go_enter Try.func45, Try.ntmps45
  go_wp2_with fail
  refine (trestleref07_Right.calls 18 n true _ HR.out).mono ?_
  rintro e w1 ⟨rfl, nd1, rfl⟩
  go_wp2_with fail
  refine (new_call _ n (by omega) HZ.out).mono ?_
  rintro e w2 ⟨g, a, cap, rfl, hI, hb, hg⟩
  have I2 : RowKit.Hid (St w g a cap (List.replicate n zN) n w2) := Lib.hid ⟨hI, (by have h := hb; exact (pw_below_drewN (Below.refl w.heap.size w) nd1).trans h), hg⟩
  clear hI hb hg
  go_wp2_with fail
  refine (refnew_call _ n (by omega)).mono ?_
  rintro e w3 ⟨⟨q, rfl⟩, hb⟩
  have I3 := Lib.hid (I2.out.below hb)
  clear hb I2
  go_wp2_with fail
  go_ret3
  exact ⟨_, _, _, _, rfl, I3.out⟩
end Go.Proofs.Ytlmmhlabacghnaa.PH
/- nodes: Find, Get, Put of keys that have no main position. -/
namespace Go.Proofs.Ytlmmhlabacghnaa.PH
open Go.RowKit Go.Proofs.YtlmmhlabacghnaaW.PrintWords Go.Proofs.YtlmmhlabacghnaaW.PrintLast Go.Proofs.YtlmmhlabacghnaaW.PrintMore
open Go.Proofs.Ytlmmhlabacghnaa.HM
set_option linter.unusedVariables false
set_option linter.unusedSimpArgs false

set_option maxHeartbeats 4000000 in
set_option maxRecDepth 100000 in
/-- main: no position. -/
theorem main_no {B g a cap : Nat} {l : List Nd} {f : Int} {w : World} (h : IsP B g a cap l f w) (k : Ky) (hno : l.length = 0 ∨ (0 < l.length ∧ ∃ m e, hash_Main.f k.f0 k.f1 k.f2 l.length = some (m, e) ∧ e ≠ 0)) :
    Calls Try.prog 82 #[.pointer (some ⟨g, 0, none⟩), kv k] w fun r w' => (∃ m, r = .returned (.tuple #[.int .i64 m, .bool false])) ∧ Below w.heap.size w w' := by
  rcases hno with h0 | ⟨h0, m, e, hm, he⟩
  · exact (main_none h k h0).mono fun r w' ⟨p, q⟩ => ⟨⟨0, p⟩, q⟩
  · exact (main_call h k m e hm h0).mono fun r w' ⟨p, q⟩ => ⟨⟨m, by rw [p, beq_eq_false_iff_ne.2 he]⟩, q⟩
/-- The key has no main position here. -/
def NoKey (l : List Nd) (k : Ky) : Prop := l.length = 0 ∨ (0 < l.length ∧ ∃ m e, hash_Main.f k.f0 k.f1 k.f2 l.length = some (m, e) ∧ e ≠ 0)

set_option maxHeartbeats 4000000 in
set_option maxRecDepth 100000 in
theorem find_no {B g a cap : Nat} {l : List Nd} {f : Int} {w : World} (h : IsP B g a cap l f w) (k : Ky) (hno : NoKey l k) :
    Calls Try.prog 53 #[.pointer (some ⟨g, 0, none⟩), kv k] w fun e w' => e = .returned (.tuple #[.int .i64 (-1), .int .i64 0]) ∧ Below w.heap.size w w' := by
  unfold kv
  have H := Lib.hid (And.intro h hno)
  clear h hno
  go_enter Try.func53, Try.ntmps53
  go_wp2_with fail
  obtain ⟨w1, hw1, hb1⟩ : ∃ w1, w.alloc (.cells #[.int .i64 k.f0, .int .i64 k.f1, .string k.f2] 30) = w1 ∧ Below w.heap.size w w1 := ⟨_, rfl, (Below.refl _ _).alloc (Nat.le_refl _) _⟩
  rw [hw1]
  have hx := main_no (H.out.1.below hb1) k H.out.2
  unfold kv at hx
  refine hx.mono ?_
  rintro e w2 ⟨⟨m, rfl⟩, hb2⟩
  have B2 := Lib.hid (hb1.trans (hb2.mono hb1.size))
  clear hx hw1 hb1 hb2
  go_wp2_with fail
  go_ret2
  exact ⟨rfl, B2.out⟩

set_option maxHeartbeats 4000000 in
set_option maxRecDepth 100000 in
/-- Put of what is not in form. -/
theorem put_form {B g a cap : Nat} {l : List Nd} {f : Int} {w : World} (h : IsP B g a cap l f w) (k v : Ky) (hf : okB k.f0 k.f1 k.f2 = false ∨ okB v.f0 v.f1 v.f2 = false) :
    Calls Try.prog 47 #[.pointer (some ⟨g, 0, none⟩), kv k, kv v] w fun x w' => x = .returned (.tuple #[.int .i64 0, .int .i64 2]) ∧ Below w.heap.size w w' := by
  unfold kv
  have HK := Lib.hid hf
  clear hf h
  go_enter Try.func47, Try.ntmps47
  go_wp2_with fail
  obtain ⟨w2, hw2, hb2, hk2, hv2, hs2⟩ : ∃ w2, (w.alloc (.cells #[.int .i64 k.f0, .int .i64 k.f1, .string k.f2] 30)).alloc (.cells #[.int .i64 v.f0, .int .i64 v.f1, .string v.f2] 30) = w2 ∧ Below w.heap.size w w2 ∧
      w2.heap[w.heap.size]? = some (.cells #[.int .i64 k.f0, .int .i64 k.f1, .string k.f2] 30 (0, 0)) ∧ w2.heap[w.heap.size + 1]? = some (.cells #[.int .i64 v.f0, .int .i64 v.f1, .string v.f2] 30 (0, 0)) ∧ w2.heap.size = w.heap.size + 2 :=
    ⟨_, rfl, ((Below.refl _ _).alloc (Nat.le_refl _) _).alloc (by simp) _, (Below.heap_alloc _ _ _ (by simp)).trans (heap_alloc_new _ _), by have := heap_alloc_new (w.alloc (.cells #[.int .i64 k.f0, .int .i64 k.f1, .string k.f2] 30)) (.cells #[.int .i64 v.f0, .int .i64 v.f1, .string v.f2] 30); simpa using this, by simp⟩
  rw [hw2]
  by_cases hk : okB k.f0 k.f1 k.f2 = true
  · have hv : ¬ okB v.f0 v.f1 v.f2 = true := by
      rcases HK.out with e | e
      · rw [hk] at e; cases e
      · rw [e]; exact Bool.false_ne_true
    refine (box_Check.calls k.f0 k.f1 k.f2 0 w2 (by unfold box_Check.f; rw [if_pos hk])).mono ?_
    rintro r1 w3 ⟨rfl, hb3⟩
    have V3 := Lib.hid ((hb3.block (w.heap.size + 1) (by omega)).trans hv2)
    have B3 := Lib.hid (hb2.trans (hb3.mono (by omega)))
    have HV := Lib.hid hv
    clear hw2 hb2 hk2 hv2 hs2 hb3 hk hv
    obtain ⟨v0, v1, v2⟩ := three_of V3.out
    go_wp2_with fail
    refine (box_Check.calls v.f0 v.f1 v.f2 2 w3 (by unfold box_Check.f; rw [if_neg HV.out])).mono ?_
    rintro r1 w4 ⟨rfl, hb4⟩
    have B4 := Lib.hid (B3.out.trans (hb4.mono B3.out.size))
    clear v0 v1 v2 hb4
    go_wp2_with fail
    go_ret2
    exact ⟨rfl, B4.out⟩
  · refine (box_Check.calls k.f0 k.f1 k.f2 2 w2 (by unfold box_Check.f; rw [if_neg hk])).mono ?_
    rintro r1 w3 ⟨rfl, hb3⟩
    have B3 := Lib.hid (hb2.trans (hb3.mono (by omega)))
    clear hw2 hb2 hk2 hv2 hs2 hb3 hk
    go_wp2_with fail
    go_ret2
    exact ⟨rfl, B3.out⟩

set_option maxHeartbeats 4000000 in
set_option maxRecDepth 100000 in
/-- Put of Nil as a key. -/
theorem put_key {B g a cap : Nat} {l : List Nd} {f : Int} {w : World} (h : IsP B g a cap l f w) (k v : Ky) (hk : okB k.f0 k.f1 k.f2 = true) (hv : okB v.f0 v.f1 v.f2 = true) (hk0 : k.f0 = 0) :
    Calls Try.prog 47 #[.pointer (some ⟨g, 0, none⟩), kv k, kv v] w fun x w' => x = .returned (.tuple #[.int .i64 0, .int .i64 9]) ∧ Below w.heap.size w w' := by
  unfold kv
  have HK := Lib.hid (And.intro hk hv)
  have hk1 : (k.f0 == 0) = true := beq_iff_eq.2 hk0
  clear hk hv h hk0
  go_enter Try.func47, Try.ntmps47
  go_wp2_with fail
  obtain ⟨w2, hw2, hb2, hk2, hv2, hs2⟩ : ∃ w2, (w.alloc (.cells #[.int .i64 k.f0, .int .i64 k.f1, .string k.f2] 30)).alloc (.cells #[.int .i64 v.f0, .int .i64 v.f1, .string v.f2] 30) = w2 ∧ Below w.heap.size w w2 ∧
      w2.heap[w.heap.size]? = some (.cells #[.int .i64 k.f0, .int .i64 k.f1, .string k.f2] 30 (0, 0)) ∧ w2.heap[w.heap.size + 1]? = some (.cells #[.int .i64 v.f0, .int .i64 v.f1, .string v.f2] 30 (0, 0)) ∧ w2.heap.size = w.heap.size + 2 :=
    ⟨_, rfl, ((Below.refl _ _).alloc (Nat.le_refl _) _).alloc (by simp) _, (Below.heap_alloc _ _ _ (by simp)).trans (heap_alloc_new _ _), by have := heap_alloc_new (w.alloc (.cells #[.int .i64 k.f0, .int .i64 k.f1, .string k.f2] 30)) (.cells #[.int .i64 v.f0, .int .i64 v.f1, .string v.f2] 30); simpa using this, by simp⟩
  rw [hw2]
  refine (box_Check.calls k.f0 k.f1 k.f2 0 w2 (by unfold box_Check.f; rw [if_pos HK.out.1])).mono ?_
  rintro r1 w3 ⟨rfl, hb3⟩
  have K3 := Lib.hid ((hb3.block w.heap.size (by omega)).trans hk2)
  have V3 := Lib.hid ((hb3.block (w.heap.size + 1) (by omega)).trans hv2)
  have B3 := Lib.hid (hb2.trans (hb3.mono (by omega)))
  have S3 : w.heap.size + 2 ≤ w3.heap.size := by have := hb3.size; omega
  clear hw2 hb2 hk2 hv2 hs2 hb3
  obtain ⟨v0, v1, v2⟩ := three_of V3.out
  go_wp2_with fail
  refine (box_Check.calls v.f0 v.f1 v.f2 0 w3 (by unfold box_Check.f; rw [if_pos HK.out.2])).mono ?_
  rintro r1 w4 ⟨rfl, hb4⟩
  have K4 := Lib.hid ((hb4.block w.heap.size (by omega)).trans K3.out)
  have B4 := Lib.hid (B3.out.trans (hb4.mono (by omega)))
  clear v0 v1 v2 hb4
  obtain ⟨k0, k1, k2⟩ := three_of K4.out
  go_wp2_with fail
  go_ret2
  exact ⟨rfl, B4.out⟩

set_option maxHeartbeats 4000000 in
set_option maxRecDepth 100000 in
/-- insert: no main position. -/
theorem insert_no {B g a cap : Nat} {l : List Nd} {f : Int} {w : World} (h : IsP B g a cap l f w) (n : Nd) (hno : NoKey l n.f0) :
    Calls Try.prog 80 #[.pointer (some ⟨g, 0, none⟩), nv n] w fun e w' => e = .returned (.int .i64 12) ∧ Below w.heap.size w w' := by
  unfold nv
  have H := Lib.hid (And.intro h hno)
  clear h hno
  go_enter Try.func80, Try.ntmps80
  go_wp2_with fail
  obtain ⟨w1, hw1, hb1⟩ : ∃ w1, w.alloc (.cells #[.int .i64 n.f0.f0, .int .i64 n.f0.f1, .string n.f0.f2, .int .i64 n.f1.f0, .int .i64 n.f1.f1, .string n.f1.f2, .int .i64 n.f2] 67) = w1 ∧ Below w.heap.size w w1 := ⟨_, rfl, (Below.refl _ _).alloc (Nat.le_refl _) _⟩
  rw [hw1]
  have hx := main_no (H.out.1.below hb1) n.f0 H.out.2
  unfold kv at hx
  refine hx.mono ?_
  rintro e w2 ⟨⟨m, rfl⟩, hb2⟩
  have B2 := Lib.hid (hb1.trans (hb2.mono hb1.size))
  clear hx hw1 hb1 hb2
  go_wp2_with fail
  go_ret
  exact ⟨rfl, B2.out⟩

set_option maxHeartbeats 4000000 in
set_option maxRecDepth 100000 in
/-- Put of a good key where it has no main position. -/
theorem put_no {B g a cap : Nat} {l : List Nd} {f : Int} {w : World} (h : IsP B g a cap l f w) (k v : Ky) (hk : okB k.f0 k.f1 k.f2 = true) (hv : okB v.f0 v.f1 v.f2 = true) (hk0 : ¬ k.f0 = 0) (hno : NoKey l k) (e : Int) (he : e = if v.f0 = 0 then 0 else 12) :
    Calls Try.prog 47 #[.pointer (some ⟨g, 0, none⟩), kv k, kv v] w fun x w' => x = .returned (.tuple #[.int .i64 0, .int .i64 e]) ∧ Below w.heap.size w w' := by
  unfold kv
  have H := Lib.hid (And.intro h hno)
  have HK := Lib.hid (And.intro hk (And.intro hv he))
  have hk1 : (k.f0 == 0) = false := beq_eq_false_iff_ne.2 hk0
  clear hk hv h hk0 hno he
  go_enter Try.func47, Try.ntmps47
  go_wp2_with fail
  obtain ⟨w2, hw2, hb2, hk2, hv2, hs2⟩ : ∃ w2, (w.alloc (.cells #[.int .i64 k.f0, .int .i64 k.f1, .string k.f2] 30)).alloc (.cells #[.int .i64 v.f0, .int .i64 v.f1, .string v.f2] 30) = w2 ∧ Below w.heap.size w w2 ∧
      w2.heap[w.heap.size]? = some (.cells #[.int .i64 k.f0, .int .i64 k.f1, .string k.f2] 30 (0, 0)) ∧ w2.heap[w.heap.size + 1]? = some (.cells #[.int .i64 v.f0, .int .i64 v.f1, .string v.f2] 30 (0, 0)) ∧ w2.heap.size = w.heap.size + 2 :=
    ⟨_, rfl, ((Below.refl _ _).alloc (Nat.le_refl _) _).alloc (by simp) _, (Below.heap_alloc _ _ _ (by simp)).trans (heap_alloc_new _ _), by have := heap_alloc_new (w.alloc (.cells #[.int .i64 k.f0, .int .i64 k.f1, .string k.f2] 30)) (.cells #[.int .i64 v.f0, .int .i64 v.f1, .string v.f2] 30); simpa using this, by simp⟩
  rw [hw2]
  refine (box_Check.calls k.f0 k.f1 k.f2 0 w2 (by unfold box_Check.f; rw [if_pos HK.out.1])).mono ?_
  rintro r1 w3 ⟨rfl, hb3⟩
  have K3 := Lib.hid ((hb3.block w.heap.size (by omega)).trans hk2)
  have V3 := Lib.hid ((hb3.block (w.heap.size + 1) (by omega)).trans hv2)
  have B3 := Lib.hid (hb2.trans (hb3.mono (by omega)))
  have S3 : w.heap.size + 2 ≤ w3.heap.size := by have := hb3.size; omega
  clear hw2 hb2 hk2 hv2 hs2 hb3
  obtain ⟨v0, v1, v2⟩ := three_of V3.out
  go_wp2_with fail
  refine (box_Check.calls v.f0 v.f1 v.f2 0 w3 (by unfold box_Check.f; rw [if_pos HK.out.2.1])).mono ?_
  rintro r1 w4 ⟨rfl, hb4⟩
  have K4 := Lib.hid ((hb4.block w.heap.size (by omega)).trans K3.out)
  have V4 := Lib.hid ((hb4.block (w.heap.size + 1) (by omega)).trans V3.out)
  have B4 := Lib.hid (B3.out.trans (hb4.mono (by omega)))
  have S4 : w.heap.size + 2 ≤ w4.heap.size := by have := hb4.size; omega
  have I4 := Lib.hid (H.out.1.below B4.out)
  clear v0 v1 v2 hb4
  obtain ⟨k0, k1, k2⟩ := three_of K4.out
  go_wp2_with fail
  have hx := find_no I4.out k H.out.2
  unfold kv at hx
  refine hx.mono ?_
  rintro r1 w5 ⟨rfl, hb5⟩
  have K5 := Lib.hid ((hb5.block w.heap.size (by omega)).trans K4.out)
  have V5 := Lib.hid ((hb5.block (w.heap.size + 1) (by omega)).trans V4.out)
  have B5 := Lib.hid (B4.out.trans (hb5.mono (by omega)))
  have S5 : w.heap.size + 2 ≤ w5.heap.size := by have := hb5.size; omega
  have I5 := Lib.hid (I4.out.below hb5)
  clear k0 k1 k2 hb5 hx
  obtain ⟨k0, k1, k2⟩ := three_of K5.out
  obtain ⟨v0, v1, v2⟩ := three_of V5.out
  have hmx : Try.prog.follows .mixedOrders = true := by kernel_rfl
  by_cases hv : v.f0 = 0
  · have hvb : (v.f0 == 0) = true := beq_iff_eq.2 hv
    have E := HK.out.2.2
    rw [if_pos hv] at E
    have E2 := Lib.hid E
    clear hv E
    go_wp2_with fail
    go_ret2
    rw [E2.out]
    exact ⟨rfl, B5.out⟩
  · have hvb : (v.f0 == 0) = false := beq_eq_false_iff_ne.2 hv
    have E := HK.out.2.2
    rw [if_neg hv] at E
    have E2 := Lib.hid E
    clear hv E
    go_wp2_with fail
    have hx := insert_no I5.out ⟨k, v, 0⟩ H.out.2
    unfold nv at hx
    refine hx.mono ?_
    rintro r1 w6 ⟨rfl, hb6⟩
    have B6 := Lib.hid (B5.out.trans (hb6.mono B5.out.size))
    clear hb6 hx
    go_wp2_with fail
    go_ret2
    rw [E2.out]
    exact ⟨rfl, B6.out⟩
end Go.Proofs.Ytlmmhlabacghnaa.PH
/- nodes: Get; Find, Get, Put of any key in a part of any size. -/
namespace Go.Proofs.Ytlmmhlabacghnaa.PH
open Go.RowKit Go.Proofs.YtlmmhlabacghnaaW.PrintWords Go.Proofs.YtlmmhlabacghnaaW.PrintLast Go.Proofs.YtlmmhlabacghnaaW.PrintMore
open Go.Proofs.Ytlmmhlabacghnaa.HM
set_option linter.unusedVariables false
set_option linter.unusedSimpArgs false

/-- What Find answers of these nodes. -/
def FindC (l : List Nd) (k : Ky) (at_ r : Int) : Prop := ∀ (B g a cap : Nat) (f : Int) (w : World), IsP B g a cap l f w →
    Calls Try.prog 53 #[.pointer (some ⟨g, 0, none⟩), kv k] w fun e w' => e = .returned (.tuple #[.int .i64 at_, .int .i64 r]) ∧ Below w.heap.size w w'

/-- The value at a place; none: Nil. -/
def valAt (l : List Nd) (at_ : Int) : Ky := if 0 ≤ at_ then (nd l at_.toNat).f1 else z30

set_option maxHeartbeats 4000000 in
set_option maxRecDepth 100000 in
theorem get_call {B g a cap : Nat} {l : List Nd} {f : Int} {w : World} (h : IsP B g a cap l f w) (k : Ky) (at_ r : Int) (hfc : FindC l k at_ r) (hat : at_ = -1 ∨ ∃ p : Nat, at_ = p ∧ p < l.length) :
    Calls Try.prog 51 #[.pointer (some ⟨g, 0, none⟩), kv k] w fun e w' => e = .returned (.tuple #[kv (valAt l at_), .int .i64 r]) ∧ Below w.heap.size w w' := by
  unfold kv
  have H := Lib.hid (And.intro h hfc)
  have hlen := h.len
  clear h hfc
  go_enter Try.func51, Try.ntmps51
  go_wp2_with fail
  obtain ⟨w1, hw1, hb1, hn1, hs1⟩ : ∃ w1, (w.alloc (.cells #[.int .i64 k.f0, .int .i64 k.f1, .string k.f2] 30)).alloc (.cells #[.int .i64 0, .int .i64 0, .string (⟨#[]⟩ : ByteArray)] 30) = w1 ∧ Below w.heap.size w w1 ∧
      w1.heap[w.heap.size + 1]? = some (.cells #[.int .i64 0, .int .i64 0, .string (⟨#[]⟩ : ByteArray)] 30 (0, 0)) ∧ w1.heap.size = w.heap.size + 2 :=
    ⟨_, rfl, ((Below.refl _ _).alloc (Nat.le_refl _) _).alloc (by simp) _, by have := heap_alloc_new (w.alloc (.cells #[.int .i64 k.f0, .int .i64 k.f1, .string k.f2] 30)) (.cells #[.int .i64 0, .int .i64 0, .string (⟨#[]⟩ : ByteArray)] 30); simpa using this, by simp⟩
  rw [hw1]
  have hx := H.out.2 B g a cap f w1 (H.out.1.below hb1)
  unfold kv at hx
  refine hx.mono ?_
  rintro e w2 ⟨rfl, hb2⟩
  have I2 := Lib.hid ((H.out.1.below hb1).below hb2)
  have N2 := Lib.hid ((hb2.block (w.heap.size + 1) (by omega)).trans hn1)
  have B2 := Lib.hid (hb1.trans (hb2.mono (by omega)))
  clear hx hw1 hb1 hn1 hs1 hb2
  obtain ⟨z0, z1, z2⟩ := three_of N2.out
  have u0 := blk_frozen N2.out 0
  have u1 := blk_frozen N2.out 1
  have u2 := blk_frozen N2.out 2
  rcases hat with rfl | ⟨p, rfl, hp⟩
  · have d1 : decide ((-1 : Int) < 0) = true := by decide
    go_wp2_with fail
    obtain ⟨G, hG⟩ : ∃ G, w.heap.size + 1 = G := ⟨_, rfl⟩
    have hn := N2.out
    rw [hG] at hn ⊢
    have h0 : (((w2.setCell ⟨G, 0, none⟩ (.int .i64 0)).setCell ⟨G, 1, none⟩ (.int .i64 0)).setCell ⟨G, 2, none⟩ (.string (⟨#[]⟩ : ByteArray))).heap[G]? = some (.cells #[.int .i64 0, .int .i64 0, .string (⟨#[]⟩ : ByteArray)] 30 (0, 0)) := by
      refine blk_put (cs := #[.int .i64 0, .int .i64 0, .string (⟨#[]⟩ : ByteArray)]) ?_ 2 _ rfl
      refine blk_put (cs := #[.int .i64 0, .int .i64 0, .string (⟨#[]⟩ : ByteArray)]) ?_ 1 _ rfl
      exact blk_put (cs := #[.int .i64 0, .int .i64 0, .string (⟨#[]⟩ : ByteArray)]) hn 0 _ rfl
    have hle : w.heap.size ≤ G := by omega
    exact bodyPost_ret (results_ct rfl _ _ G 30 _ (0, 0) _ rfl h0 Try.underlying30 rfl (by kernel_rfl)) rfl ⟨rfl, ((B2.out.setCell (p := ⟨G, 0, none⟩) hle _).setCell (p := ⟨G, 1, none⟩) hle _).setCell (p := ⟨G, 2, none⟩) hle _⟩
  · have d1 : decide ((p : Int) < 0) = false := decide_eq_false (by omega)
    have p1 : 0 ≤ (p : Int) := by omega
    have p2 : (p : Int) < (l.length : Int) := by omega
    have hpp : (p : Int) ≤ 65536 := by omega
    obtain ⟨x0, x1, y0, y1⟩ := two_of I2.out.blk
    obtain ⟨e0, e1, e2, e3, e4, e5, e6⟩ := I2.out.at p hp
    replace p1 := eq_true p1
    replace p2 := eq_true p2
    have hv : RowKit.Hid (valAt l p = (nd l p).f1) := Lib.hid (by unfold valAt; rw [if_pos (by omega), Int.toNat_natCast])
    clear hp
    go_wp2_with fail
    obtain ⟨G, hG⟩ : ∃ G, w.heap.size + 1 = G := ⟨_, rfl⟩
    have hn := N2.out
    rw [hG] at hn ⊢
    have h0 : (((w2.setCell ⟨G, 0, none⟩ (.int .i64 (nd l p).f1.f0)).setCell ⟨G, 1, none⟩ (.int .i64 (nd l p).f1.f1)).setCell ⟨G, 2, none⟩ (.string (nd l p).f1.f2)).heap[G]? = some (.cells #[.int .i64 (nd l p).f1.f0, .int .i64 (nd l p).f1.f1, .string (nd l p).f1.f2] 30 (0, 0)) := by
      refine blk_put (cs := #[.int .i64 (nd l p).f1.f0, .int .i64 (nd l p).f1.f1, .string (⟨#[]⟩ : ByteArray)]) ?_ 2 _ rfl
      refine blk_put (cs := #[.int .i64 (nd l p).f1.f0, .int .i64 0, .string (⟨#[]⟩ : ByteArray)]) ?_ 1 _ rfl
      exact blk_put (cs := #[.int .i64 0, .int .i64 0, .string (⟨#[]⟩ : ByteArray)]) hn 0 _ rfl
    have hle : w.heap.size ≤ G := by omega
    rw [hv.out]
    exact bodyPost_ret (results_ct rfl _ _ G 30 _ (0, 0) _ rfl h0 Try.underlying30 rfl (by kernel_rfl)) rfl ⟨rfl, ((B2.out.setCell (p := ⟨G, 0, none⟩) hle _).setCell (p := ⟨G, 1, none⟩) hle _).setCell (p := ⟨G, 2, none⟩) hle _⟩

/-- What holds of a part of any size. -/
structure InvE (l : List Nd) (f : Nat) : Prop where
  fle : f ≤ l.length
  inv : l = [] ∨ ∃ C, Inv l f C
theorem InvE.free {l : List Nd} {f : Nat} (h : InvE l f) : ∀ p, f ≤ p → p < l.length → (nd l p).f0.f0 ≠ 0 := by
  rcases h.inv with rfl | ⟨C, h⟩
  · intro p _ hp; simp at hp
  · exact h.free
theorem InvE.keys {l : List Nd} {f : Nat} (h : InvE l f) : Keys l := by
  rcases h.inv with rfl | ⟨C, h⟩
  · exact ⟨fun p hp => by simp at hp, fun p hp => by simp at hp, fun p q hp => by simp at hp⟩
  · exact h.keys
theorem InvE.small {l : List Nd} {f : Nat} (h : InvE l f) : l.length ≤ 65536 := by
  rcases h.inv with rfl | ⟨C, h⟩
  · simp
  · exact h.small.2
theorem noKey_of {l : List Nd} {f : Nat} (h : InvE l f) {k : Ky} (hk : l = [] ∨ ¬ KeyOk k) : NoKey l k := by
  rcases h.inv with rfl | ⟨C, h⟩
  · exact .inl rfl
  · have hs := h.small
    have hk2 : ¬ KeyOk k := by
      rcases hk with rfl | hk
      · simp at hs
      · exact hk
    refine .inr ⟨by omega, (mainOf k.f0 k.f1 k.f2 l.length).1, (mainOf k.f0 k.f1 k.f2 l.length).2, Main_eq (by omega), ?_⟩
    unfold mainOf
    by_cases h1 : okB k.f0 k.f1 k.f2 = true
    · rw [if_pos h1, if_pos h.pow]
      by_cases h2 : k.f0 = 0
      · rw [if_pos h2]; decide
      · exact absurd ⟨h1, h2⟩ hk2
    · rw [if_neg h1]; decide
open Classical in
/-- The search, as a function. -/
noncomputable def fndR (l : List Nd) (k : Ky) : Int × Int := if l = [] ∨ ¬ KeyOk k then (-1, 0) else (findL l k (l.length + 1) (hp l.length k) 1).getD (-1, 0)
theorem fndR_no {l : List Nd} {k : Ky} (h : l = [] ∨ ¬ KeyOk k) : fndR l k = (-1, 0) := if_pos h
theorem fndR_yes {l : List Nd} {k : Ky} (h : 1 ≤ l.length) (hk : KeyOk k) {x : Int × Int} (hf : findL l k (l.length + 1) (hp l.length k) 1 = some x) : fndR l k = x := by
  unfold fndR
  rw [if_neg (fun e => by
    rcases e with e | e
    · rw [e] at h; simp at h
    · exact e hk), hf]
  rfl
/-- The search, of any key: where it is (-1: nowhere), how many nodes are read; a key that is held is found. -/
structure Found (l : List Nd) (k : Ky) (at_ r : Int) : Prop where
  c : FindC l k at_ r
  fn : fndR l k = (at_, r)
  rd : 0 ≤ r ∧ r ≤ l.length
  at_ : (at_ = -1 ∧ ∀ p, p < l.length → (nd l p).f0.f0 ≠ 0 → (nd l p).f0 ≠ k) ∨ (KeyOk k ∧ 1 ≤ r ∧ ∃ p : Nat, at_ = p ∧ p < l.length ∧ (nd l p).f0 = k)
theorem Found.uniq {l : List Nd} {k : Ky} {a r a' r' : Int} (h : Found l k a r) (h' : Found l k a' r') : a = a' ∧ r = r' := by
  have := h.fn.symm.trans h'.fn
  simpa using this
theorem Found.lo {l : List Nd} {k : Ky} {at_ r : Int} (h : Found l k at_ r) : at_ = -1 ∨ ∃ p : Nat, at_ = p ∧ p < l.length := by
  rcases h.at_ with h1 | ⟨_, _, p, h1, h2, _⟩
  · exact .inl h1.1
  · exact .inr ⟨p, h1, h2⟩
theorem InvE.find {l : List Nd} {f : Nat} (h : InvE l f) (k : Ky) : ∃ at_ r, Found l k at_ r := by
  by_cases hk : l = [] ∨ ¬ KeyOk k
  · refine ⟨-1, 0, fun B g a cap f w hI => find_no hI k (noKey_of h hk), fndR_no hk, by omega, .inl ⟨rfl, fun p hp hn e => ?_⟩⟩
    rcases hk with rfl | hk
    · simp at hp
    · subst e
      exact hk ⟨h.keys.ok p hp hn, hn⟩
  · obtain ⟨hl, hko⟩ := not_or.1 hk
    have hko := Classical.not_not.1 hko
    rcases h.inv with rfl | ⟨C, hI⟩
    · exact absurd rfl hl
    · obtain ⟨at_, r, hf, h1, h2, h3⟩ := hI.find hko
      have hs := hI.small
      refine ⟨at_, r, fun B g a cap f w hP => find_call hP k (hp l.length k) (hp_main hI.pow hko) (by omega) _ at_ r hf, fndR_yes hs.1 hko hf, ⟨by omega, h2⟩, ?_⟩
      rcases h3 with ⟨p, A, B, h4, h5, h6, _⟩ | ⟨h4, h5⟩
      · exact .inr ⟨hko, h1, p, h6, h4, h5⟩
      · exact .inl ⟨h4, fun p hp _ => h5 p hp⟩
/-- A Put, of anything. -/
structure PutP (l : List Nd) (f : Nat) (k v : Ky) (l' : List Nd) (f' : Nat) (at_ r e : Int) : Prop where
  inv : InvE l' f'
  len : l'.length = l.length
  fle : f' ≤ f
  found : Found l k at_ r
  /-- not in form; Nil; held; Nil as a value; new -/
  ways : ((okB k.f0 k.f1 k.f2 = false ∨ okB v.f0 v.f1 v.f2 = false) ∧ e = 2 ∧ l' = l ∧ f' = f) ∨
    (okB k.f0 k.f1 k.f2 = true ∧ okB v.f0 v.f1 v.f2 = true ∧ ((k.f0 = 0 ∧ e = 9 ∧ l' = l ∧ f' = f) ∨ (k.f0 ≠ 0 ∧
      ((∃ p : Nat, at_ = p ∧ p < l.length ∧ (nd l p).f0 = k ∧ e = 0 ∧ l' = l.set p ⟨(nd l p).f0, v, (nd l p).f2⟩ ∧ f' = f) ∨
       (at_ = -1 ∧ v.f0 = 0 ∧ e = 0 ∧ l' = l ∧ f' = f) ∨
       (at_ = -1 ∧ v.f0 ≠ 0 ∧ ((e = 0 ∧ cnt l < l.length ∧ cnt l' = cnt l + 1 ∧ ∀ x u, x.f0 ≠ 0 → (has l' x u ↔ (x = k ∧ u = v) ∨ has l x u)) ∨ (e = 12 ∧ cnt l = l.length ∧ l' = l ∧ (f' = 0 ∨ l = []))))))))
/-- How many nodes Put tells. -/
def putR (k v : Ky) (r : Int) : Int := if okB k.f0 k.f1 k.f2 = true ∧ okB v.f0 v.f1 v.f2 = true ∧ k.f0 ≠ 0 then r else 0
def PutC (l : List Nd) (f : Nat) (k v : Ky) (l' : List Nd) (f' : Nat) (r e : Int) : Prop := ∀ (B g a cap : Nat) (w : World), IsP B g a cap l f w → B ≤ w.heap.size →
    Calls Try.prog 47 #[.pointer (some ⟨g, 0, none⟩), kv k, kv v] w fun x w' => x = .returned (.tuple #[.int .i64 (putR k v r), .int .i64 e]) ∧ IsP B g a cap l' f' w' ∧ Fr (fun k => k = g ∨ k = a) w w'
theorem nd_val {l : List Nd} {p : Nat} (v : Ky) (q : Nat) : (nd (l.set p ⟨(nd l p).f0, v, (nd l p).f2⟩) q).f0 = (nd l q).f0 ∧ (nd (l.set p ⟨(nd l p).f0, v, (nd l p).f2⟩) q).f2 = (nd l q).f2 := by
  rw [nd_set]
  by_cases h : p = q ∧ p < l.length
  · rw [if_pos h, ← h.1]; exact ⟨rfl, rfl⟩
  · rw [if_neg h]; exact ⟨rfl, rfl⟩
theorem Inv.setVal {l : List Nd} {f : Nat} {C : Nat → List Nat} (h : Inv l f C) {p : Nat} (hp1 : p < l.length) (hn : (nd l p).f0.f0 ≠ 0) (v : Ky) : Inv (l.set p ⟨(nd l p).f0, v, (nd l p).f2⟩) f C := by
  have hlen : (l.set p ⟨(nd l p).f0, v, (nd l p).f2⟩).length = l.length := List.length_set ..
  have hv := nd_val (l := l) (p := p) v
  refine ⟨by rw [hlen]; exact h.pow, by rw [hlen]; exact h.fle, fun q h1 h2 => ?_, fun q h1 h2 => ?_, fun q h1 h2 => ?_, fun q s h1 h2 h3 h4 => ?_, fun m q hq => ?_, fun q h1 h2 => ?_, h.head, h.nodup, fun m => ?_⟩
  · rw [hlen] at h2; rw [(hv q).1]; exact h.free q h1 h2
  · rw [hlen] at h1; rw [(hv q).1] at h2
    have hpq : p ≠ q := fun e => hn (e ▸ h2)
    rw [nd_ne _ _ hpq]; exact h.emp q h1 h2
  · rw [hlen] at h1; rw [(hv q).1] at h2 ⊢; exact h.ok q h1 h2
  · rw [hlen] at h1 h2; rw [(hv q).1] at h3 h4; rw [(hv s).1] at h4; exact h.dist q s h1 h2 h3 h4
  · rw [hlen, (hv q).1]; exact h.mem m q hq
  · rw [hlen] at h1 ⊢; rw [(hv q).1] at h2 ⊢; exact h.all q h1 h2
  · exact (h.link m).congr (fun q _ => (hv q).2)
theorem InvE.put {l : List Nd} {f : Nat} (h : InvE l f) (k v : Ky) : ∃ l' f' at_ r e, PutP l f k v l' f' at_ r e ∧ PutC l f k v l' f' r e := by
  obtain ⟨at_, r, hF⟩ := h.find k
  by_cases hform : okB k.f0 k.f1 k.f2 = true ∧ okB v.f0 v.f1 v.f2 = true
  · obtain ⟨hk, hv⟩ := hform
    by_cases hk0 : k.f0 = 0
    · refine ⟨l, f, at_, r, 9, ⟨h, rfl, Nat.le_refl _, hF, .inr ⟨hk, hv, .inl ⟨hk0, rfl, rfl, rfl⟩⟩⟩, fun B g a cap w hI hB => ?_⟩
      have hr : putR k v r = 0 := if_neg (fun e => e.2.2 hk0)
      rw [hr]
      exact (put_key hI k v hk hv hk0).mono fun x w' ⟨h1, h2⟩ => ⟨h1, hI.below h2, Fr.of_below h2⟩
    · have hr : putR k v r = r := if_pos ⟨hk, hv, hk0⟩
      have hko : KeyOk k := ⟨hk, hk0⟩
      rcases h.inv with hl | ⟨C, hI⟩
      · have hat : at_ = -1 ∧ r = 0 := by
          have h1 := hF.rd
          rcases hF.at_ with h2 | ⟨_, h2, p, _, h4, _⟩
          · rw [hl] at h1; exact ⟨h2.1, by simp at h1; omega⟩
          · rw [hl] at h4; simp at h4
        have hfl := h.fle
        have hno : NoKey l k := noKey_of h (.inl hl)
        have hlen0 : l.length = 0 := by rw [hl]; rfl
        by_cases hv0 : v.f0 = 0
        · refine ⟨l, f, at_, r, 0, ⟨h, rfl, Nat.le_refl _, hF, .inr ⟨hk, hv, .inr ⟨hk0, .inr (.inl ⟨hat.1, hv0, rfl, rfl, rfl⟩)⟩⟩⟩, fun B g a cap w hP hB => ?_⟩
          rw [hr, hat.2]
          exact (put_no hP k v hk hv hk0 hno 0 (by rw [if_pos hv0])).mono fun x w' ⟨h1, h2⟩ => ⟨h1, hP.below h2, Fr.of_below h2⟩
        · refine ⟨l, f, at_, r, 12, ⟨h, rfl, Nat.le_refl _, hF, .inr ⟨hk, hv, .inr ⟨hk0, .inr (.inr ⟨hat.1, hv0, .inr ⟨rfl, by rw [hl]; rfl, rfl, .inr hl⟩⟩)⟩⟩⟩, fun B g a cap w hP hB => ?_⟩
          rw [hr, hat.2]
          exact (put_no hP k v hk hv hk0 hno 12 (by rw [if_neg hv0])).mono fun x w' ⟨h1, h2⟩ => ⟨h1, hP.below h2, Fr.of_below h2⟩
      · obtain ⟨at2, r2, hf, h1, h2, h3⟩ := hI.find hko
        have hs := hI.small
        have hm := hp_main hI.pow hko
        have hml := hp_lt hI.pow k
        have hc : FindC l k at2 r2 := fun B g a cap f w hP => find_call hP k (hp l.length k) hm (by omega) _ at2 r2 hf
        have hr2 : putR k v r2 = r2 := if_pos ⟨hk, hv, hk0⟩
        rcases h3 with ⟨p, A, B, h4, h5, h6, _⟩ | ⟨h4, h5⟩
        · have hF2 : Found l k at2 r2 := ⟨hc, fndR_yes hs.1 hko hf, ⟨by omega, h2⟩, .inr ⟨hko, h1, p, h6, h4, h5⟩⟩
          refine ⟨_, f, at2, r2, 0, ⟨⟨by rw [List.length_set]; exact h.fle, .inr ⟨C, hI.setVal h4 (by rw [h5]; exact hk0) v⟩⟩, List.length_set .., Nat.le_refl _, hF2, .inr ⟨hk, hv, .inr ⟨hk0, .inl ⟨p, h6, h4, h5, rfl, rfl, rfl⟩⟩⟩⟩, fun B g a cap w hP hB => ?_⟩
          rw [hr2]
          exact put_call hP hB h.fle k v hk hv hk0 _ hm hml _ _ _ hf (.held p h4 h6)
        · have hF2 : Found l k at2 r2 := ⟨hc, fndR_yes hs.1 hko hf, ⟨by omega, h2⟩, .inl ⟨h4, fun p hp _ => h5 p hp⟩⟩
          by_cases hv0 : v.f0 = 0
          · refine ⟨l, f, at2, r2, 0, ⟨h, rfl, Nat.le_refl _, hF2, .inr ⟨hk, hv, .inr ⟨hk0, .inr (.inl ⟨h4, hv0, rfl, rfl, rfl⟩)⟩⟩⟩, fun B g a cap w hP hB => ?_⟩
            rw [hr2]
            exact put_call hP hB h.fle k v hk hv hk0 _ hm hml _ _ _ hf (.nil h4 hv0)
          · rcases hI.put (v := v) hko h5 with ⟨hc1, l', f', C', hins, hinv, hfl, hlen, hcnt, hhas, _⟩ | ⟨hc1, hins, hinv⟩
            · refine ⟨l', f', at2, r2, 0, ⟨⟨hinv.fle, .inr ⟨C', hinv⟩⟩, hlen, hfl, hF2, .inr ⟨hk, hv, .inr ⟨hk0, .inr (.inr ⟨h4, hv0, .inl ⟨rfl, hc1, hcnt, hhas⟩⟩)⟩⟩⟩, fun B g a cap w hP hB => ?_⟩
              rw [hr2]
              exact put_call hP hB h.fle k v hk hv hk0 _ hm hml _ _ _ hf (.new h4 hv0 _ _ _ hins)
            · refine ⟨l, 0, at2, r2, 12, ⟨⟨Nat.zero_le _, .inr ⟨C, hinv⟩⟩, rfl, Nat.zero_le _, hF2, .inr ⟨hk, hv, .inr ⟨hk0, .inr (.inr ⟨h4, hv0, .inr ⟨rfl, hc1, rfl, .inl rfl⟩⟩)⟩⟩⟩, fun B g a cap w hP hB => ?_⟩
              rw [hr2]
              exact put_call hP hB h.fle k v hk hv hk0 _ hm hml _ _ _ hf (.new h4 hv0 _ _ _ hins)
  · refine ⟨l, f, at_, r, 2, ⟨h, rfl, Nat.le_refl _, hF, .inl ⟨?_, rfl, rfl, rfl⟩⟩, fun B g a cap w hI hB => ?_⟩
    · by_cases hk : okB k.f0 k.f1 k.f2 = true
      · refine .inr ?_
        cases hv : okB v.f0 v.f1 v.f2 with
        | false => rfl
        | true => exact absurd ⟨hk, hv⟩ hform
      · refine .inl ?_
        cases hk2 : okB k.f0 k.f1 k.f2 with
        | false => rfl
        | true => exact absurd hk2 hk
    · have hr : putR k v r = 0 := if_neg (fun e => hform ⟨e.1, e.2.1⟩)
      rw [hr]
      refine (put_form hI k v ?_).mono fun x w' ⟨h1, h2⟩ => ⟨h1, hI.below h2, Fr.of_below h2⟩
      cases hk2 : okB k.f0 k.f1 k.f2 with
      | false => exact .inl rfl
      | true =>
        cases hv : okB v.f0 v.f1 v.f2 with
        | false => exact .inr rfl
        | true => exact absurd ⟨hk2, hv⟩ hform
end Go.Proofs.Ytlmmhlabacghnaa.PH
/- nodes: the calls that a law plays, in memory; begin, of any size. -/
namespace Go.Proofs.Ytlmmhlabacghnaa.PH
open Go.RowKit Go.Proofs.YtlmmhlabacghnaaW.PrintWords Go.Proofs.YtlmmhlabacghnaaW.PrintLast Go.Proofs.YtlmmhlabacghnaaW.PrintMore
open Go.Proofs.Ytlmmhlabacghnaa.HM
set_option linter.unusedVariables false
set_option linter.unusedSimpArgs false

/-- One call that a law plays. -/
structure OpD where
  kind : Int
  key : Ky
  val : Ky
def zO : OpD := ⟨0, z30, z30⟩
def kO : Kd OpD := Kd.iso (Kd.pair (Kd.int .i64) (Kd.pair k30 k30)) (fun x : OpD => (x.kind, x.key, x.val))
def ocells (x : OpD) : List Value := [.int .i64 x.kind, .int .i64 x.key.f0, .int .i64 x.key.f1, .string x.key.f2, .int .i64 x.val.f0, .int .i64 x.val.f1, .string x.val.f2]
theorem kO_open {w : World} {x : OpD} {cs : List Value} (h : kO.K w x cs) : cs = ocells x := by
  obtain ⟨_, _, rfl, rfl, ⟨_, _, rfl, s1, s2⟩⟩ := h
  obtain rfl := k30_open s1
  obtain rfl := k30_open s2
  exact rfl
theorem kO_mk (w : World) (x : OpD) : kO.K w x (ocells x) := ⟨[.int .i64 x.kind], _, rfl, rfl, ⟨[.int .i64 x.key.f0, .int .i64 x.key.f1, .string x.key.f2], _, rfl, k30_mk w x.key, k30_mk w x.val⟩⟩
def od (l : List OpD) (i : Nat) : OpD := l.getD i zO
/-- The cells of an operation that came in. -/
theorem at_op {w : World} {A : Option Addr} {n : Nat} {xs : List OpD} (h : Kd.C kO w A n xs) (i : Nat) (h1 : i < n) : ∃ ad, A = some ad ∧ w.cell? (ad.add (i * 7)) = some (.int .i64 (od xs i).kind) ∧
    w.cell? ⟨(ad.add (i * 7)).block, (ad.add (i * 7)).off + 1, none⟩ = some (.int .i64 (od xs i).key.f0) ∧ w.cell? ⟨(ad.add (i * 7)).block, (ad.add (i * 7)).off + 2, none⟩ = some (.int .i64 (od xs i).key.f1) ∧ w.cell? ⟨(ad.add (i * 7)).block, (ad.add (i * 7)).off + 3, none⟩ = some (.string (od xs i).key.f2) ∧
    w.cell? ⟨(ad.add (i * 7)).block, (ad.add (i * 7)).off + 4, none⟩ = some (.int .i64 (od xs i).val.f0) ∧ w.cell? ⟨(ad.add (i * 7)).block, (ad.add (i * 7)).off + 5, none⟩ = some (.int .i64 (od xs i).val.f1) ∧ w.cell? ⟨(ad.add (i * 7)).block, (ad.add (i * 7)).off + 6, none⟩ = some (.string (od xs i).val.f2) := by
  obtain ⟨ad, c, e, _, hK, hc0⟩ := Kd.C_get h zO (i : Int) (by omega) (by omega)
  rw [Int.toNat_natCast] at hK hc0
  have hc : ∀ j u, c[j]? = some u → w.cell? (ad.add (i * 7 + j)) = some u := hc0
  obtain rfl := kO_open hK
  exact ⟨ad, e, hc 0 _ rfl, by rw [← add_field _ _ 1 (by omega)]; exact hc 1 _ rfl, by rw [← add_field _ _ 2 (by omega)]; exact hc 2 _ rfl, by rw [← add_field _ _ 3 (by omega)]; exact hc 3 _ rfl, by rw [← add_field _ _ 4 (by omega)]; exact hc 4 _ rfl, by rw [← add_field _ _ 5 (by omega)]; exact hc 5 _ rfl, by rw [← add_field _ _ 6 (by omega)]; exact hc 6 _ rfl⟩

theorem field_kind (a b : Int) (s : ByteArray) (w : World) : (Instr.field 30 (.agg #[.int .i64 a, .int .i64 b, .string s]) 0).run Try.prog w = .ok (.int .i64 a) w := by kernel_rfl
/-- May a part have that size? -/
def RightN (s : Int) : Prop := s = 0 ∨ Pow s
theorem right_any {s : Int} (h : -9223372036854775808 ≤ s ∧ s ≤ 9223372036854775807) : ∃ r, trestleref07_Right.f 18 s = some r ∧ (r = true ↔ RightN s) := by
  unfold trestleref07_Right.f RightN
  by_cases h0 : s = 0
  · refine ⟨true, ?_, ?_⟩
    · first | rw [if_pos h0] | simp [h0]
    · simp [h0]
  · rw [if_neg h0, power_eq _ 18 (Nat.le_refl _)]
    refine ⟨decide (Pow s), rfl, ?_⟩
    rw [decide_eq_true_iff]
    exact ⟨.inr, fun h => h.resolve_left h0⟩
theorem bits_right {s : Int} (h : RightN s) : Go.bits .and .i64 s (s - 1) = 0 := by
  rcases h with rfl | h
  · decide +kernel
  · have h1 := pow_range h
    obtain ⟨n, rfl⟩ : ∃ n : Nat, s = n := ⟨s.toNat, by omega⟩
    exact and_zero h
theorem bits_wrong {s : Int} (h : ¬ RightN s) (h0 : 0 ≤ s ∧ s ≤ 65536) : Go.bits .and .i64 s (s - 1) ≠ 0 := by
  have hs0 : s ≠ 0 := fun e => h (.inl e)
  obtain ⟨n, rfl⟩ : ∃ n : Nat, s = n := ⟨s.toNat, by omega⟩
  rw [and_i64 (n : Int) ((n : Int) - 1) (by omega) (by omega) (by omega) (by omega), Int.toNat_natCast, show ((n : Int) - 1).toNat = n - 1 by omega]
  intro e
  have e2 : n &&& (n - 1) = 0 := by omega
  exact h (.inr ((land_pow n (by omega) (by omega)).1 e2))

set_option maxHeartbeats 4000000 in
set_option maxRecDepth 100000 in
theorem begin_yes (w : World) (n : Nat) (hp1 : RightN n) (hn : n ≤ 4096) : Calls Try.prog 45 #[.int .i64 n] w fun e w' => ∃ g a cap q, e = .returned (.tuple #[.pointer (some ⟨g, 0, none⟩), .pointer (some ⟨q, 0, none⟩), .bool true]) ∧ St w g a cap (List.replicate n zN) n w' := by
  have d1 : decide ((n : Int) > 4096) = false := decide_eq_false (by omega)
  have d2 : decide (4096 < (n : Int)) = false := decide_eq_false (by omega)
  obtain ⟨r, hr, hrt⟩ := right_any (s := (n : Int)) (by omega)
  obtain rfl : r = true := hrt.2 hp1
  have HR := Lib.hid hr
  have HZ := Lib.hid (bits_right hp1)
  clear hp1 hr hrt
  go_enter Try.func45, Try.ntmps45
  go_wp2_with fail
  refine (trestleref07_Right.calls 18 n true _ HR.out).mono ?_
  rintro e w1 ⟨rfl, nd1, rfl⟩
  go_wp2_with fail
  refine (new_call _ n (by omega) HZ.out).mono ?_
  rintro e w2 ⟨g, a, cap, rfl, hI, hb, hg⟩
  have I2 : RowKit.Hid (St w g a cap (List.replicate n zN) n w2) := Lib.hid ⟨hI, (by have h := hb; exact (pw_below_drewN (Below.refl w.heap.size w) nd1).trans h), hg⟩
  clear hI hb hg
  go_wp2_with fail
  refine (refnew_call _ n (by omega)).mono ?_
  rintro e w3 ⟨⟨q, rfl⟩, hb⟩
  have I3 := Lib.hid (I2.out.below hb)
  clear hb I2
  go_wp2_with fail
  go_ret3
  exact ⟨_, _, _, _, rfl, I3.out⟩
set_option maxHeartbeats 4000000 in
set_option maxRecDepth 100000 in
theorem begin_no (w : World) (s : Int) (hs : -9223372036854775808 ≤ s ∧ s ≤ 9223372036854775807) (h : ¬ RightN s ∨ 4096 < s) : Calls Try.prog 45 #[.int .i64 s] w fun e w' => e = .returned (.tuple #[.pointer none, .pointer none, .bool false]) ∧ Below w.heap.size w w' := by
  obtain ⟨r, hr, hrt⟩ := right_any hs
  have HR := Lib.hid hr
  cases r with
  | false =>
    clear hrt hr h hs
    go_enter Try.func45, Try.ntmps45
    go_wp2_with fail
    refine (trestleref07_Right.calls 18 s false _ HR.out).mono ?_
    rintro e w1 ⟨rfl, nd1, rfl⟩
    go_wp2_with fail
    go_ret3
    exact ⟨rfl, pw_below_drewN (Below.refl w.heap.size w) nd1⟩
  | true =>
    have h2 : 4096 < s := h.resolve_left (fun e => e (hrt.1 rfl))
    have d1 : decide (s > 4096) = true := decide_eq_true (by omega)
    have d2 : decide (4096 < s) = true := decide_eq_true (by omega)
    clear hrt hr h hs h2
    go_enter Try.func45, Try.ntmps45
    go_wp2_with fail
    refine (trestleref07_Right.calls 18 s true _ HR.out).mono ?_
    rintro e w1 ⟨rfl, nd1, rfl⟩
    go_wp2_with fail
    go_ret3
    exact ⟨rfl, pw_below_drewN (Below.refl w.heap.size w) nd1⟩
theorem zeros_inv {n : Nat} (h : RightN n) : InvE (List.replicate n zN) n := by
  have hlen : (List.replicate n zN).length = n := List.length_replicate
  refine ⟨by rw [hlen]; exact Nat.le_refl _, ?_⟩
  rcases h with h | h
  · refine .inl ?_
    obtain rfl : n = 0 := by omega
    rfl
  · have hz : ∀ p, nd (List.replicate n zN) p = zN := fun p => by
      unfold nd
      rw [List.getD_eq_getElem?_getD, List.getElem?_replicate]
      by_cases hp : p < n
      · rw [if_pos hp]; rfl
      · rw [if_neg hp]; rfl
    have hz0 : ∀ p, (nd (List.replicate n zN) p).f0.f0 = 0 := fun p => by rw [hz]; rfl
    exact .inr ⟨fun _ => [], by rw [hlen]; exact h, by rw [hlen]; exact Nat.le_refl _, fun p h1 h2 => by rw [hlen] at h2; omega, fun p _ _ => hz p, fun p _ h2 => absurd (hz0 p) h2, fun p q _ _ h2 => absurd (hz0 p) h2, fun m p hp => by simp at hp, fun p _ h2 => absurd (hz0 p) h2, fun m => .inl rfl, fun m => List.nodup_nil, fun m => trivial⟩
end Go.Proofs.Ytlmmhlabacghnaa.PH
/- The calls that a law plays, opened out of the row's argument. -/
namespace Go.Proofs.Ytlmmhlabacghnaa.PH
open Go.ChangeShapes Go.WideShapes Go.ChangeAt Go.RowKit Go.Deep Go.Proofs.YtlmmhlabacghnaaW.PrintWords
set_option linter.unusedVariables false
set_option linter.unusedSimpArgs false

set_option maxRecDepth 100000 in
theorem trod_val {H : Type} {enc : TypeId × Value → H} {w : World} {base : Nat} {spare : Nat → Bool} {held : Bool} {fuel : Nat} {cs : List Value} {x : DataW H × List MemPlace} (h : DataW.trod enc Try.prog w base spare held fuel 30 cs = some x) :
    ∃ k : Ky, cs = [.int .i64 k.f0, .int .i64 k.f1, .string k.f2] := by
  obtain ⟨xs, k, _, _, hlen, hxl, hf⟩ := DataW.trod_struct Try.underlying30 h
  have hc : Try.prog.cellsOf 30 = 3 := by kernel_rfl
  have hc1 : Try.prog.cellsOf 3 = 1 := by kernel_rfl
  have hc2 : Try.prog.cellsOf 9 = 1 := by kernel_rfl
  rw [hc] at hlen
  have hx3 : xs.length = 3 := hxl
  clear hxl
  match xs, hx3, cs, hlen with
  | [y0, y1, y2], _, [v0, v1, v2], _ =>
    have g0 := hf 0 _ rfl
    have g1 := hf 1 _ rfl
    have g2 := hf 2 _ rfl
    simp [hc1, hc2] at g0 g1 g2
    obtain ⟨n0, e0, _⟩ := DataW.trod_int Try.underlying3 g0
    obtain ⟨n1, e1, _⟩ := DataW.trod_int Try.underlying3 g1
    obtain ⟨n2, e2, _⟩ := DataW.trod_string Try.underlying9 g2
    simp only [List.cons.injEq, and_true] at e0 e1 e2
    subst e0 e1 e2
    exact ⟨⟨n0, n1, n2⟩, rfl⟩
set_option maxRecDepth 100000 in
theorem trod_op {H : Type} {enc : TypeId × Value → H} {w : World} {base : Nat} {spare : Nat → Bool} {held : Bool} {fuel : Nat} {cs : List Value} {x : DataW H × List MemPlace} (h : DataW.trod enc Try.prog w base spare held fuel 65 cs = some x) :
    ∃ o : OpD, cs = ocells o := by
  obtain ⟨xs, k, _, _, hlen, hxl, hf⟩ := DataW.trod_struct Try.underlying65 h
  have hc : Try.prog.cellsOf 65 = 7 := by kernel_rfl
  have hc1 : Try.prog.cellsOf 3 = 1 := by kernel_rfl
  have hc2 : Try.prog.cellsOf 30 = 3 := by kernel_rfl
  rw [hc] at hlen
  have hx3 : xs.length = 3 := hxl
  clear hxl
  match xs, hx3, cs, hlen with
  | [y0, y1, y2], _, [v0, v1, v2, v3, v4, v5, v6], _ =>
    have g0 := hf 0 _ rfl
    have g1 := hf 1 _ rfl
    have g2 := hf 2 _ rfl
    simp [hc1, hc2] at g0 g1 g2
    obtain ⟨n0, e0, _⟩ := DataW.trod_int Try.underlying3 g0
    obtain ⟨k1, e1⟩ := trod_val g1
    obtain ⟨k2, e2⟩ := trod_val g2
    simp only [List.cons.injEq, and_true] at e0 e1 e2
    obtain ⟨rfl, rfl, rfl⟩ := e1
    obtain ⟨rfl, rfl, rfl⟩ := e2
    subst e0
    exact ⟨⟨n0, k1, k2⟩, rfl⟩
/-- The row's slice of calls. -/
theorem open_ops {H : Type} {enc : TypeId × Value → H} {W : World} {base : Nat} {a : Option Addr} {len cap : Nat} {d : DataW H} {ps : List MemPlace} (h : DataW.Trod enc Try.prog W base (fun _ => true) true 57 (.slice a len cap) d ps) :
    ∃ ops : List OpD, ops.length = len ∧ len ≤ cap ∧ Kd.C kO W a ops.length ops := by
  obtain ⟨fuel, hf⟩ := h
  rcases open_slice Try.underlying57 hf with ⟨hcs, _⟩ | ⟨ad, l, c, m, n, D, Pl, hcs, _, hl, hm, hmm, _, hel⟩
  · simp [Value.cells] at hcs
    obtain ⟨rfl, rfl, rfl⟩ := hcs
    exact ⟨[], rfl, Nat.le_refl _, rfl, by simp, fun h => by simp at h⟩
  · simp [Value.cells] at hcs
    obtain ⟨rfl, rfl, rfl⟩ := hcs
    have hc : Try.prog.cellsOf 65 = 7 := by kernel_rfl
    have hm2 : m = cap := by rw [hmm]; rfl
    rw [hc] at hel
    have each : ∀ i, i < len → ∃ o : OpD, ∀ j u, (ocells o)[j]? = some u → W.cell? (ad.add (i * 7 + j)) = some u := by
      intro i hi
      obtain ⟨cs', h1, h2⟩ := hel i (by omega)
      obtain ⟨o, ho⟩ := trod_op h2
      obtain ⟨_, hl7, hcell⟩ := World.cells?_some h1
      refine ⟨o, fun j u hj => ?_⟩
      subst ho
      have hj7 : j < 7 := by
        have := (List.getElem?_eq_some_iff.1 hj).1
        omega
      have h3 := hcell j hj7
      rw [Deep.add_add] at h3
      rw [h3, hj]
    have : Inhabited OpD := ⟨zO⟩
    obtain ⟨F, hF⟩ := choose_lt each
    have hlen : ((List.range len).map F).length = len := by simp
    refine ⟨(List.range len).map F, hlen, hl, rfl, by rw [hlen]; have := hm; simp [maxLen] at this; omega, fun _ => ⟨ad, rfl, fun j p hj => ?_⟩⟩
    have hj2 : j < len := by
      have := (List.getElem?_eq_some_iff.1 hj).1
      rwa [hlen] at this
    have hp : F j = p := by
      rw [List.getElem?_map, List.getElem?_range hj2] at hj
      exact Option.some.inj hj
    subst hp
    exact ⟨ocells (F j), rfl, kO_mk W (F j), fun i u hu => hF j hj2 i u hu⟩
end Go.Proofs.Ytlmmhlabacghnaa.PH
/- nodes: what Dump answers, read; the path to a key; the program's hash. -/
namespace Go.Proofs.Ytlmmhlabacghnaa.PH
open Go.RowKit Go.Proofs.YtlmmhlabacghnaaW.PrintWords Go.Proofs.YtlmmhlabacghnaaW.PrintLast Go.Proofs.YtlmmhlabacghnaaW.PrintMore
open Go.Proofs.Ytlmmhlabacghnaa.HM
set_option linter.unusedVariables false
set_option linter.unusedSimpArgs false

/-- The cells of a node of a list that is read. -/
theorem at_nd {w : World} {A : Option Addr} {n : Nat} {xs : List Nd} (h : Kd.C k67 w A n xs) (i : Nat) (h1 : i < n) : ∃ ad, A = some ad ∧ w.cell? (ad.add (i * 7)) = some (.int .i64 (nd xs i).f0.f0) ∧
    w.cell? ⟨(ad.add (i * 7)).block, (ad.add (i * 7)).off + 1, none⟩ = some (.int .i64 (nd xs i).f0.f1) ∧ w.cell? ⟨(ad.add (i * 7)).block, (ad.add (i * 7)).off + 2, none⟩ = some (.string (nd xs i).f0.f2) ∧ w.cell? ⟨(ad.add (i * 7)).block, (ad.add (i * 7)).off + 3, none⟩ = some (.int .i64 (nd xs i).f1.f0) ∧
    w.cell? ⟨(ad.add (i * 7)).block, (ad.add (i * 7)).off + 4, none⟩ = some (.int .i64 (nd xs i).f1.f1) ∧ w.cell? ⟨(ad.add (i * 7)).block, (ad.add (i * 7)).off + 5, none⟩ = some (.string (nd xs i).f1.f2) ∧ w.cell? ⟨(ad.add (i * 7)).block, (ad.add (i * 7)).off + 6, none⟩ = some (.int .i64 (nd xs i).f2) := by
  obtain ⟨ad, e, h0, h2, h3, h4, h5, h6, h7⟩ := at_T67 h (i : Int) (by omega) (by omega)
  rw [Int.toNat_natCast] at h0 h2 h3 h4 h5 h6 h7
  have hr : rd_T67 xs (i : Int) = nd xs i := by unfold rd_T67 nd; rw [Int.toNat_natCast]
  rw [hr] at h0 h2 h3 h4 h5 h6 h7
  exact ⟨ad, e, h0, h2, h3, h4, h5, h6, h7⟩
theorem St_C {w0 w : World} {g a cap : Nat} {l : List Nd} {f : Int} (h : St w0 g a cap l f w) {A : Option Addr} {n : Nat} {xs : List OpD} (hc : Kd.C kO w0 A n xs) : Kd.C kO w A n xs := Kd.C_below hc h.b

theorem St.lower {w w1 wr : World} {g a cap : Nat} {l : List Nd} {f : Int} (h : St w1 g a cap l f wr) (hb : Below w.heap.size w w1) : St w g a cap l f wr :=
  ⟨⟨h.p.blk, Kd.R_lower h.p.row hb.size, h.p.ne, h.p.len⟩, hb.trans (h.b.mono hb.size), Nat.le_trans hb.size h.g⟩
theorem IsP.far {B g a cap : Nat} {l : List Nd} {f : Int} {w : World} (h : IsP B g a cap l f w) {p : Addr} (hg : p.block ≠ g) (ha : p.block ≠ a) (v : Value) : IsP B g a cap l f (w.setCell p v) :=
  ⟨(Below.heap_setCell w p v g (Ne.symm hg)).trans h.blk, Kd.R_far h.row (fun k hk => by rw [hk]; exact Ne.symm ha) v, h.ne, h.len⟩
theorem St.far {w0 w : World} {g a cap : Nat} {l : List Nd} {f : Int} (h : St w0 g a cap l f w) {p : Addr} (hp : w0.heap.size ≤ p.block) (hg : p.block ≠ g) (ha : p.block ≠ a) (v : Value) : St w0 g a cap l f (w.setCell p v) :=
  ⟨h.p.far hg ha v, h.b.setCell hp v, h.g⟩
theorem St.lt {w0 w : World} {g a cap : Nat} {l : List Nd} {f : Int} (h : St w0 g a cap l f w) : g < w.heap.size ∧ a < w.heap.size := ⟨(Array.getElem?_eq_some_iff.1 h.p.blk).1, h.p.alt⟩

/-- The path from its main position to a key that is held. -/
structure Path (l : List Nd) (p m : Nat) (A B : List Nat) : Prop where
  nodup : (A ++ p :: B).Nodup
  link : Linked l (A ++ p :: B)
  head : ∃ t, A ++ p :: B = m :: t
  mem : ∀ x, x ∈ A ++ p :: B → x < l.length ∧ (nd l x).f0.f0 ≠ 0 ∧ hash_Main.f (nd l x).f0.f0 (nd l x).f0.f1 (nd l x).f0.f2 l.length = some ((m : Int), 0)
theorem InvE.path {l : List Nd} {f : Nat} (h : InvE l f) {p : Nat} (hp1 : p < l.length) (hn : (nd l p).f0.f0 ≠ 0) : ∃ m A B, Path l p m A B ∧ m < l.length ∧ hash_Main.f (nd l p).f0.f0 (nd l p).f0.f1 (nd l p).f0.f2 l.length = some ((m : Int), 0) ∧ A.length < l.length ∧
    Found l (nd l p).f0 p (1 + A.length) ∧ 1 ≤ l.length := by
  rcases h.inv with rfl | ⟨C, hI⟩
  · simp at hp1
  · have hko := hI.key hp1 hn
    obtain ⟨at_, r, hf, h1, h2, h3⟩ := hI.find hko
    have hs := hI.small
    rcases h3 with ⟨q, A, B, h4, h5, h6, h7, h8⟩ | ⟨_, h5⟩
    · have hpq : q = p := hI.dist q p h4 hp1 (by rw [h5]; exact hn) h5
      rw [hpq] at h4 h5 h6 h7
      have hm := hp_main hI.pow hko
      have hml := hp_lt hI.pow (nd l p).f0
      refine ⟨hp l.length (nd l p).f0, A, B, ⟨by rw [← h7]; exact hI.nodup _, by rw [← h7]; exact hI.link _, ?_, fun x hx => ?_⟩, hml, hm, by omega, ⟨fun B g a cap f w hP => ?_, ?_, by omega, .inr ⟨hko, by omega, p, rfl, hp1, rfl⟩⟩, by omega⟩
      · rcases hI.head (hp l.length (nd l p).f0) with e | e
        · rw [e] at h7; simp at h7
        · rw [← h7]; exact e
      · rw [← h7] at hx
        obtain ⟨a1, a2, a3⟩ := hI.mem _ _ hx
        have a4 := hp_main hI.pow (hI.key a1 a2)
        rw [a3] at a4
        exact ⟨a1, a2, a4⟩
      · rw [h6, h8] at hf
        exact find_call hP _ _ hm (by omega) _ _ _ hf
      · rw [h6, h8] at hf
        exact fndR_yes hs.1 hko hf
    · exact absurd rfl (h5 p hp1)
theorem hash_call (k : Ky) (N m e : Int) (w : World) (h : hash_Main.f k.f0 k.f1 k.f2 N = some (m, e)) : Calls Try.prog 27 #[kv k, .int .i64 N] w fun r w' => r = .returned (.tuple #[.int .i64 m, .int .i64 e]) ∧ Below w.heap.size w w' := by
  exact hash_Main.calls _ _ _ _ m e _ h
/-- A list of nodes in memory of its own, apart from the part's. -/
def DR (g a : Nat) (w : World) (v : Value) (l : List Nd) : Prop := Kd.R k67 67 w 0 (fun k => k ≠ g ∧ k ≠ a) v l
theorem DR.of {g a B : Nat} {w : World} {v : Value} {l : List Nd} (h : Kd.R k67 67 w B (fun k => B ≤ k) v l) (hg : g < B ∧ a < B) : DR g a w v l :=
  Kd.R_mono (Kd.R_lower h (Nat.zero_le _)) (fun k hk => by omega)
theorem DR.below {g a : Nat} {w w' : World} {v : Value} {l : List Nd} (h : DR g a w v l) (hb : Below w.heap.size w w') : DR g a w' v l := Kd.R_below h hb
theorem DR.fr {g a : Nat} {w w' : World} {v : Value} {l : List Nd} (h : DR g a w v l) (hF : Fr (fun k => k = g ∨ k = a) w w') : DR g a w' v l := Kd.R_step h (fun k hk hlt => hF.block k hlt (by omega))
theorem DR.reads {g a : Nat} {w : World} {A : Option Addr} {n c : Nat} {l : List Nd} (h : DR g a w (.slice A n c) l) : n = l.length ∧ Kd.C k67 w A l.length l := by
  obtain ⟨A', c', e, _, hC⟩ := Kd.R_reads h
  injection e with e1 e2 e3
  subst e1
  exact ⟨e2, hC⟩
/-- A Put that goes through tells what Find tells. -/
theorem PutP.reads {l : List Nd} {f : Nat} {k v : Ky} {l' : List Nd} {f' : Nat} {at_ r e : Int} (h : PutP l f k v l' f' at_ r e) (he : e = 0) {at2 rd : Int} (hF : Found l k at2 rd) : putR k v r = rd ∧ at_ = at2 := by
  obtain ⟨h1, h2⟩ := h.found.uniq hF
  refine ⟨?_, h1⟩
  rcases h.ways with ⟨_, h3, _⟩ | ⟨h3, h4, ⟨_, h5, _⟩ | ⟨h5, _⟩⟩
  · omega
  · omega
  · unfold putR
    rw [if_pos ⟨h3, h4, h5⟩, h2]
/-- Setting a held key, or nothing where there is none. -/
theorem PutP.sets {l : List Nd} {f : Nat} {k W V : Ky} {l' : List Nd} {f' : Nat} {at_ r e at2 rd : Int} (h : PutP l f k W l' f' at_ r e) (hF : Found l k at2 rd) (hV : okB V.f0 V.f1 V.f2 = true) (hW : (at2 < 0 ∧ W = z30) ∨ (0 ≤ at2 ∧ W = V)) (j : Nat) (hj : j < l.length) :
    nd l' j = if (j : Int) = at2 then ⟨(nd l j).f0, V, (nd l j).f2⟩ else nd l j := by
  obtain ⟨rfl, _⟩ := h.found.uniq hF
  rcases hW with ⟨ha, rfl⟩ | ⟨ha, rfl⟩
  · rw [if_neg (by omega)]
    rcases h.ways with ⟨_, _, h3, _⟩ | ⟨_, _, ⟨_, _, h3, _⟩ | ⟨_, ⟨p, h4, _⟩ | ⟨_, _, _, h3, _⟩ | ⟨_, h4, _⟩⟩⟩
    · rw [h3]
    · rw [h3]
    · omega
    · rw [h3]
    · exact absurd rfl h4
  · rcases hF.at_ with ⟨h4, _⟩ | ⟨hk, _, p, h4, h5, h6⟩
    · omega
    · rcases h.ways with ⟨h3, _⟩ | ⟨_, _, ⟨h3, _⟩ | ⟨_, ⟨q, h7, h8, h9, _, h3, _⟩ | ⟨h3, _⟩ | ⟨h3, _⟩⟩⟩
      · rcases h3 with h3 | h3
        · rw [hk.1] at h3; cases h3
        · rw [hV] at h3; cases h3
      · exact absurd h3 hk.2
      · rw [h3]
        by_cases hjq : j = q
        · subst hjq
          rw [nd_eq _ _ h8, if_pos (by omega)]
        · rw [nd_ne _ _ (Ne.symm hjq), if_neg (by omega)]
      · omega
      · omega
end Go.Proofs.Ytlmmhlabacghnaa.PH
