/- nodes: Find, Get, Put of keys that have no main position. -/
import Derived.Test.YtlmmhlabacghnaaNB
namespace Go.Proofs.Ytlmmhlabacghnaa.PH
open Go.RowKit Go.Proofs.YtlmmhlabacghnaaW.PrintWords Go.Proofs.YtlmmhlabacghnaaW.PrintLast Go.Proofs.YtlmmhlabacghnaaW.PrintMore
open Go.Proofs.Ytlmmhlabacghnaa.HM
set_option linter.unusedVariables false
set_option linter.unusedSimpArgs false

set_option maxHeartbeats 4000000 in
set_option maxRecDepth 100000 in
/-- main: no position. -/
theorem main_no {B g a cap : Nat} {l : List Nd} {f : Int} {w : World} (h : IsP B g a cap l f w) (k : Ky) (hno : l.length = 0 ∨ (0 < l.length ∧ ∃ m e, hash_Main.f k.f0 k.f1 k.f2 l.length = some (m, e) ∧ e ≠ 0)) :
    Calls Try.prog 82 #[.pointer (some ⟨g, 0, none⟩), kv k] w fun r w' => (∃ m, r = .returned (.tuple #[.int .i64 m, .bool false])) ∧ Below w.heap.size w w' := by
  rcases hno with h0 | ⟨h0, m, e, hm, he⟩
  · exact (main_none h k h0).mono fun r w' ⟨p, q⟩ => ⟨⟨0, p⟩, q⟩
  · exact (main_call h k m e hm h0).mono fun r w' ⟨p, q⟩ => ⟨⟨m, by rw [p, beq_eq_false_iff_ne.2 he]⟩, q⟩
/-- The key has no main position here. -/
def NoKey (l : List Nd) (k : Ky) : Prop := l.length = 0 ∨ (0 < l.length ∧ ∃ m e, hash_Main.f k.f0 k.f1 k.f2 l.length = some (m, e) ∧ e ≠ 0)

set_option maxHeartbeats 4000000 in
set_option maxRecDepth 100000 in
theorem find_no {B g a cap : Nat} {l : List Nd} {f : Int} {w : World} (h : IsP B g a cap l f w) (k : Ky) (hno : NoKey l k) :
    Calls Try.prog 53 #[.pointer (some ⟨g, 0, none⟩), kv k] w fun e w' => e = .returned (.tuple #[.int .i64 (-1), .int .i64 0]) ∧ Below w.heap.size w w' := by
  unfold kv
  have H := Lib.hid (And.intro h hno)
  clear h hno
  go_enter Try.func53, Try.ntmps53
  go_wp2_with fail
  obtain ⟨w1, hw1, hb1⟩ : ∃ w1, w.alloc (.cells #[.int .i64 k.f0, .int .i64 k.f1, .string k.f2] 30) = w1 ∧ Below w.heap.size w w1 := ⟨_, rfl, (Below.refl _ _).alloc (Nat.le_refl _) _⟩
  rw [hw1]
  have hx := main_no (H.out.1.below hb1) k H.out.2
  unfold kv at hx
  refine hx.mono ?_
  rintro e w2 ⟨⟨m, rfl⟩, hb2⟩
  have B2 := Lib.hid (hb1.trans (hb2.mono hb1.size))
  clear hx hw1 hb1 hb2
  go_wp2_with fail
  go_ret2
  exact ⟨rfl, B2.out⟩

set_option maxHeartbeats 4000000 in
set_option maxRecDepth 100000 in
/-- Put of what is not in form. -/
theorem put_form {B g a cap : Nat} {l : List Nd} {f : Int} {w : World} (h : IsP B g a cap l f w) (k v : Ky) (hf : okB k.f0 k.f1 k.f2 = false ∨ okB v.f0 v.f1 v.f2 = false) :
    Calls Try.prog 47 #[.pointer (some ⟨g, 0, none⟩), kv k, kv v] w fun x w' => x = .returned (.tuple #[.int .i64 0, .int .i64 2]) ∧ Below w.heap.size w w' := by
  unfold kv
  have HK := Lib.hid hf
  clear hf h
  go_enter Try.func47, Try.ntmps47
  go_wp2_with fail
  obtain ⟨w2, hw2, hb2, hk2, hv2, hs2⟩ : ∃ w2, (w.alloc (.cells #[.int .i64 k.f0, .int .i64 k.f1, .string k.f2] 30)).alloc (.cells #[.int .i64 v.f0, .int .i64 v.f1, .string v.f2] 30) = w2 ∧ Below w.heap.size w w2 ∧
      w2.heap[w.heap.size]? = some (.cells #[.int .i64 k.f0, .int .i64 k.f1, .string k.f2] 30 (0, 0)) ∧ w2.heap[w.heap.size + 1]? = some (.cells #[.int .i64 v.f0, .int .i64 v.f1, .string v.f2] 30 (0, 0)) ∧ w2.heap.size = w.heap.size + 2 :=
    ⟨_, rfl, ((Below.refl _ _).alloc (Nat.le_refl _) _).alloc (by simp) _, (Below.heap_alloc _ _ _ (by simp)).trans (heap_alloc_new _ _), by have := heap_alloc_new (w.alloc (.cells #[.int .i64 k.f0, .int .i64 k.f1, .string k.f2] 30)) (.cells #[.int .i64 v.f0, .int .i64 v.f1, .string v.f2] 30); simpa using this, by simp⟩
  rw [hw2]
  by_cases hk : okB k.f0 k.f1 k.f2 = true
  · have hv : ¬ okB v.f0 v.f1 v.f2 = true := by
      rcases HK.out with e | e
      · rw [hk] at e; cases e
      · rw [e]; exact Bool.false_ne_true
    refine (box_Check.calls k.f0 k.f1 k.f2 0 w2 (by unfold box_Check.f; rw [if_pos hk])).mono ?_
    rintro r1 w3 ⟨rfl, hb3⟩
    have V3 := Lib.hid ((hb3.block (w.heap.size + 1) (by omega)).trans hv2)
    have B3 := Lib.hid (hb2.trans (hb3.mono (by omega)))
    have HV := Lib.hid hv
    clear hw2 hb2 hk2 hv2 hs2 hb3 hk hv
    obtain ⟨v0, v1, v2⟩ := three_of V3.out
    go_wp2_with fail
    refine (box_Check.calls v.f0 v.f1 v.f2 2 w3 (by unfold box_Check.f; rw [if_neg HV.out])).mono ?_
    rintro r1 w4 ⟨rfl, hb4⟩
    have B4 := Lib.hid (B3.out.trans (hb4.mono B3.out.size))
    clear v0 v1 v2 hb4
    go_wp2_with fail
    go_ret2
    exact ⟨rfl, B4.out⟩
  · refine (box_Check.calls k.f0 k.f1 k.f2 2 w2 (by unfold box_Check.f; rw [if_neg hk])).mono ?_
    rintro r1 w3 ⟨rfl, hb3⟩
    have B3 := Lib.hid (hb2.trans (hb3.mono (by omega)))
    clear hw2 hb2 hk2 hv2 hs2 hb3 hk
    go_wp2_with fail
    go_ret2
    exact ⟨rfl, B3.out⟩

set_option maxHeartbeats 4000000 in
set_option maxRecDepth 100000 in
/-- Put of Nil as a key. -/
theorem put_key {B g a cap : Nat} {l : List Nd} {f : Int} {w : World} (h : IsP B g a cap l f w) (k v : Ky) (hk : okB k.f0 k.f1 k.f2 = true) (hv : okB v.f0 v.f1 v.f2 = true) (hk0 : k.f0 = 0) :
    Calls Try.prog 47 #[.pointer (some ⟨g, 0, none⟩), kv k, kv v] w fun x w' => x = .returned (.tuple #[.int .i64 0, .int .i64 9]) ∧ Below w.heap.size w w' := by
  unfold kv
  have HK := Lib.hid (And.intro hk hv)
  have hk1 : (k.f0 == 0) = true := beq_iff_eq.2 hk0
  clear hk hv h hk0
  go_enter Try.func47, Try.ntmps47
  go_wp2_with fail
  obtain ⟨w2, hw2, hb2, hk2, hv2, hs2⟩ : ∃ w2, (w.alloc (.cells #[.int .i64 k.f0, .int .i64 k.f1, .string k.f2] 30)).alloc (.cells #[.int .i64 v.f0, .int .i64 v.f1, .string v.f2] 30) = w2 ∧ Below w.heap.size w w2 ∧
      w2.heap[w.heap.size]? = some (.cells #[.int .i64 k.f0, .int .i64 k.f1, .string k.f2] 30 (0, 0)) ∧ w2.heap[w.heap.size + 1]? = some (.cells #[.int .i64 v.f0, .int .i64 v.f1, .string v.f2] 30 (0, 0)) ∧ w2.heap.size = w.heap.size + 2 :=
    ⟨_, rfl, ((Below.refl _ _).alloc (Nat.le_refl _) _).alloc (by simp) _, (Below.heap_alloc _ _ _ (by simp)).trans (heap_alloc_new _ _), by have := heap_alloc_new (w.alloc (.cells #[.int .i64 k.f0, .int .i64 k.f1, .string k.f2] 30)) (.cells #[.int .i64 v.f0, .int .i64 v.f1, .string v.f2] 30); simpa using this, by simp⟩
  rw [hw2]
  refine (box_Check.calls k.f0 k.f1 k.f2 0 w2 (by unfold box_Check.f; rw [if_pos HK.out.1])).mono ?_
  rintro r1 w3 ⟨rfl, hb3⟩
  have K3 := Lib.hid ((hb3.block w.heap.size (by omega)).trans hk2)
  have V3 := Lib.hid ((hb3.block (w.heap.size + 1) (by omega)).trans hv2)
  have B3 := Lib.hid (hb2.trans (hb3.mono (by omega)))
  have S3 : w.heap.size + 2 ≤ w3.heap.size := by have := hb3.size; omega
  clear hw2 hb2 hk2 hv2 hs2 hb3
  obtain ⟨v0, v1, v2⟩ := three_of V3.out
  go_wp2_with fail
  refine (box_Check.calls v.f0 v.f1 v.f2 0 w3 (by unfold box_Check.f; rw [if_pos HK.out.2])).mono ?_
  rintro r1 w4 ⟨rfl, hb4⟩
  have K4 := Lib.hid ((hb4.block w.heap.size (by omega)).trans K3.out)
  have B4 := Lib.hid (B3.out.trans (hb4.mono (by omega)))
  clear v0 v1 v2 hb4
  obtain ⟨k0, k1, k2⟩ := three_of K4.out
  go_wp2_with fail
  go_ret2
  exact ⟨rfl, B4.out⟩

set_option maxHeartbeats 4000000 in
set_option maxRecDepth 100000 in
/-- insert: no main position. -/
theorem insert_no {B g a cap : Nat} {l : List Nd} {f : Int} {w : World} (h : IsP B g a cap l f w) (n : Nd) (hno : NoKey l n.f0) :
    Calls Try.prog 80 #[.pointer (some ⟨g, 0, none⟩), nv n] w fun e w' => e = .returned (.int .i64 12) ∧ Below w.heap.size w w' := by
  unfold nv
  have H := Lib.hid (And.intro h hno)
  clear h hno
  go_enter Try.func80, Try.ntmps80
  go_wp2_with fail
  obtain ⟨w1, hw1, hb1⟩ : ∃ w1, w.alloc (.cells #[.int .i64 n.f0.f0, .int .i64 n.f0.f1, .string n.f0.f2, .int .i64 n.f1.f0, .int .i64 n.f1.f1, .string n.f1.f2, .int .i64 n.f2] 67) = w1 ∧ Below w.heap.size w w1 := ⟨_, rfl, (Below.refl _ _).alloc (Nat.le_refl _) _⟩
  rw [hw1]
  have hx := main_no (H.out.1.below hb1) n.f0 H.out.2
  unfold kv at hx
  refine hx.mono ?_
  rintro e w2 ⟨⟨m, rfl⟩, hb2⟩
  have B2 := Lib.hid (hb1.trans (hb2.mono hb1.size))
  clear hx hw1 hb1 hb2
  go_wp2_with fail
  go_ret
  exact ⟨rfl, B2.out⟩

set_option maxHeartbeats 4000000 in
set_option maxRecDepth 100000 in
/-- Put of a good key where it has no main position. -/
theorem put_no {B g a cap : Nat} {l : List Nd} {f : Int} {w : World} (h : IsP B g a cap l f w) (k v : Ky) (hk : okB k.f0 k.f1 k.f2 = true) (hv : okB v.f0 v.f1 v.f2 = true) (hk0 : ¬ k.f0 = 0) (hno : NoKey l k) (e : Int) (he : e = if v.f0 = 0 then 0 else 12) :
    Calls Try.prog 47 #[.pointer (some ⟨g, 0, none⟩), kv k, kv v] w fun x w' => x = .returned (.tuple #[.int .i64 0, .int .i64 e]) ∧ Below w.heap.size w w' := by
  unfold kv
  have H := Lib.hid (And.intro h hno)
  have HK := Lib.hid (And.intro hk (And.intro hv he))
  have hk1 : (k.f0 == 0) = false := beq_eq_false_iff_ne.2 hk0
  clear hk hv h hk0 hno he
  go_enter Try.func47, Try.ntmps47
  go_wp2_with fail
  obtain ⟨w2, hw2, hb2, hk2, hv2, hs2⟩ : ∃ w2, (w.alloc (.cells #[.int .i64 k.f0, .int .i64 k.f1, .string k.f2] 30)).alloc (.cells #[.int .i64 v.f0, .int .i64 v.f1, .string v.f2] 30) = w2 ∧ Below w.heap.size w w2 ∧
      w2.heap[w.heap.size]? = some (.cells #[.int .i64 k.f0, .int .i64 k.f1, .string k.f2] 30 (0, 0)) ∧ w2.heap[w.heap.size + 1]? = some (.cells #[.int .i64 v.f0, .int .i64 v.f1, .string v.f2] 30 (0, 0)) ∧ w2.heap.size = w.heap.size + 2 :=
    ⟨_, rfl, ((Below.refl _ _).alloc (Nat.le_refl _) _).alloc (by simp) _, (Below.heap_alloc _ _ _ (by simp)).trans (heap_alloc_new _ _), by have := heap_alloc_new (w.alloc (.cells #[.int .i64 k.f0, .int .i64 k.f1, .string k.f2] 30)) (.cells #[.int .i64 v.f0, .int .i64 v.f1, .string v.f2] 30); simpa using this, by simp⟩
  rw [hw2]
  refine (box_Check.calls k.f0 k.f1 k.f2 0 w2 (by unfold box_Check.f; rw [if_pos HK.out.1])).mono ?_
  rintro r1 w3 ⟨rfl, hb3⟩
  have K3 := Lib.hid ((hb3.block w.heap.size (by omega)).trans hk2)
  have V3 := Lib.hid ((hb3.block (w.heap.size + 1) (by omega)).trans hv2)
  have B3 := Lib.hid (hb2.trans (hb3.mono (by omega)))
  have S3 : w.heap.size + 2 ≤ w3.heap.size := by have := hb3.size; omega
  clear hw2 hb2 hk2 hv2 hs2 hb3
  obtain ⟨v0, v1, v2⟩ := three_of V3.out
  go_wp2_with fail
  refine (box_Check.calls v.f0 v.f1 v.f2 0 w3 (by unfold box_Check.f; rw [if_pos HK.out.2.1])).mono ?_
  rintro r1 w4 ⟨rfl, hb4⟩
  have K4 := Lib.hid ((hb4.block w.heap.size (by omega)).trans K3.out)
  have V4 := Lib.hid ((hb4.block (w.heap.size + 1) (by omega)).trans V3.out)
  have B4 := Lib.hid (B3.out.trans (hb4.mono (by omega)))
  have S4 : w.heap.size + 2 ≤ w4.heap.size := by have := hb4.size; omega
  have I4 := Lib.hid (H.out.1.below B4.out)
  clear v0 v1 v2 hb4
  obtain ⟨k0, k1, k2⟩ := three_of K4.out
  go_wp2_with fail
  have hx := find_no I4.out k H.out.2
  unfold kv at hx
  refine hx.mono ?_
  rintro r1 w5 ⟨rfl, hb5⟩
  have K5 := Lib.hid ((hb5.block w.heap.size (by omega)).trans K4.out)
  have V5 := Lib.hid ((hb5.block (w.heap.size + 1) (by omega)).trans V4.out)
  have B5 := Lib.hid (B4.out.trans (hb5.mono (by omega)))
  have S5 : w.heap.size + 2 ≤ w5.heap.size := by have := hb5.size; omega
  have I5 := Lib.hid (I4.out.below hb5)
  clear k0 k1 k2 hb5 hx
  obtain ⟨k0, k1, k2⟩ := three_of K5.out
  obtain ⟨v0, v1, v2⟩ := three_of V5.out
  have hmx : Try.prog.follows .mixedOrders = true := by kernel_rfl
  by_cases hv : v.f0 = 0
  · have hvb : (v.f0 == 0) = true := beq_iff_eq.2 hv
    have E := HK.out.2.2
    rw [if_pos hv] at E
    have E2 := Lib.hid E
    clear hv E
    go_wp2_with fail
    go_ret2
    rw [E2.out]
    exact ⟨rfl, B5.out⟩
  · have hvb : (v.f0 == 0) = false := beq_eq_false_iff_ne.2 hv
    have E := HK.out.2.2
    rw [if_neg hv] at E
    have E2 := Lib.hid E
    clear hv E
    go_wp2_with fail
    have hx := insert_no I5.out ⟨k, v, 0⟩ H.out.2
    unfold nv at hx
    refine hx.mono ?_
    rintro r1 w6 ⟨rfl, hb6⟩
    have B6 := Lib.hid (B5.out.trans (hb6.mono B5.out.size))
    clear hb6 hx
    go_wp2_with fail
    go_ret2
    rw [E2.out]
    exact ⟨rfl, B6.out⟩
end Go.Proofs.Ytlmmhlabacghnaa.PH
