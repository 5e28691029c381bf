/- nodes: the calls of a part that is nil; New of a wrong size. -/
import Derived.Test.YtlmmhlabacghnaaGD
namespace Go.Proofs.Ytlmmhlabacghnaa.PH
open Go.RowKit Go.Proofs.YtlmmhlabacghnaaW.PrintWords Go.Proofs.YtlmmhlabacghnaaW.PrintLast Go.Proofs.YtlmmhlabacghnaaW.PrintMore
open Go.Proofs.Ytlmmhlabacghnaa.HM
set_option linter.unusedVariables false
set_option linter.unusedSimpArgs false

set_option maxHeartbeats 4000000 in
set_option maxRecDepth 100000 in
theorem free_nil (w : World) : Calls Try.prog 46 #[.pointer none] w fun e w' => e = .returned (.int .i64 0) ∧ w' = w := by
  go_enter Try.func46, Try.ntmps46
  go_wp2_with fail
  go_ret
  exact ⟨rfl, rfl⟩
set_option maxHeartbeats 4000000 in
set_option maxRecDepth 100000 in
theorem dump_nil (w : World) : Calls Try.prog 52 #[.pointer none] w fun e w' => e = .returned (.slice none 0 0) ∧ w' = w := by
  go_enter Try.func52, Try.ntmps52
  go_wp2_with fail
  go_ret
  exact ⟨rfl, rfl⟩
set_option maxHeartbeats 4000000 in
set_option maxRecDepth 100000 in
theorem main_nil (w : World) (k : Ky) : Calls Try.prog 82 #[.pointer none, kv k] w fun e w' => e = .returned (.tuple #[.int .i64 0, .bool false]) ∧ Below w.heap.size w w' := by
  unfold kv
  go_enter Try.func82, Try.ntmps82
  go_wp2_with fail
  refine (size_nil _).mono ?_
  rintro e w2 ⟨rfl, rfl⟩
  go_wp2_with fail
  go_ret2
  exact ⟨rfl, by repeat (first | exact Below.refl _ _ | apply below_alloc)⟩
set_option maxHeartbeats 4000000 in
set_option maxRecDepth 100000 in
theorem find_nil (w : World) (k : Ky) : Calls Try.prog 53 #[.pointer none, kv k] w fun e w' => e = .returned (.tuple #[.int .i64 (-1), .int .i64 0]) ∧ Below w.heap.size w w' := by
  unfold kv
  go_enter Try.func53, Try.ntmps53
  go_wp2_with fail
  have hx := main_nil (w.alloc (.cells #[.int .i64 k.f0, .int .i64 k.f1, .string k.f2] 30)) k
  unfold kv at hx
  refine hx.mono ?_
  rintro e w2 ⟨rfl, hb2⟩
  have B2 := Lib.hid ((below_alloc (Below.refl w.heap.size w) (.cells #[.int .i64 k.f0, .int .i64 k.f1, .string k.f2] 30)).trans (hb2.mono (by simp)))
  clear hx hb2
  go_wp2_with fail
  go_ret2
  exact ⟨rfl, B2.out⟩
set_option maxHeartbeats 4000000 in
set_option maxRecDepth 100000 in
theorem insert_nil (w : World) (n : Nd) : Calls Try.prog 80 #[.pointer none, nv n] w fun e w' => e = .returned (.int .i64 12) ∧ Below w.heap.size w w' := by
  unfold nv
  go_enter Try.func80, Try.ntmps80
  go_wp2_with fail
  have hx := main_nil (w.alloc (.cells #[.int .i64 n.f0.f0, .int .i64 n.f0.f1, .string n.f0.f2, .int .i64 n.f1.f0, .int .i64 n.f1.f1, .string n.f1.f2, .int .i64 n.f2] 67)) n.f0
  unfold kv at hx
  refine hx.mono ?_
  rintro e w2 ⟨rfl, hb2⟩
  have B2 := Lib.hid ((below_alloc (Below.refl w.heap.size w) (.cells #[.int .i64 n.f0.f0, .int .i64 n.f0.f1, .string n.f0.f2, .int .i64 n.f1.f0, .int .i64 n.f1.f1, .string n.f1.f2, .int .i64 n.f2] 67)).trans (hb2.mono (by simp)))
  clear hx hb2
  go_wp2_with fail
  go_ret
  exact ⟨rfl, B2.out⟩
set_option maxHeartbeats 4000000 in
set_option maxRecDepth 100000 in
theorem put_nil (w : World) (k v : Ky) (hk : okB k.f0 k.f1 k.f2 = true) (hv : okB v.f0 v.f1 v.f2 = true) (hk0 : ¬ k.f0 = 0) (hv0 : ¬ v.f0 = 0) :
    Calls Try.prog 47 #[.pointer none, kv k, kv v] w fun x w' => x = .returned (.tuple #[.int .i64 0, .int .i64 12]) ∧ Below w.heap.size w w' := by
  unfold kv
  have HK := Lib.hid (And.intro hk hv)
  have hk1 : (k.f0 == 0) = false := beq_eq_false_iff_ne.2 hk0
  have hvb : (v.f0 == 0) = false := beq_eq_false_iff_ne.2 hv0
  clear hk hv hk0 hv0
  go_enter Try.func47, Try.ntmps47
  go_wp2_with fail
  obtain ⟨w2, hw2, hb2, hk2, hv2, hs2⟩ : ∃ w2, (w.alloc (.cells #[.int .i64 k.f0, .int .i64 k.f1, .string k.f2] 30)).alloc (.cells #[.int .i64 v.f0, .int .i64 v.f1, .string v.f2] 30) = w2 ∧ Below w.heap.size w w2 ∧
      w2.heap[w.heap.size]? = some (.cells #[.int .i64 k.f0, .int .i64 k.f1, .string k.f2] 30 (0, 0)) ∧ w2.heap[w.heap.size + 1]? = some (.cells #[.int .i64 v.f0, .int .i64 v.f1, .string v.f2] 30 (0, 0)) ∧ w2.heap.size = w.heap.size + 2 :=
    ⟨_, rfl, ((Below.refl _ _).alloc (Nat.le_refl _) _).alloc (by simp) _, (Below.heap_alloc _ _ _ (by simp)).trans (heap_alloc_new _ _), by have := heap_alloc_new (w.alloc (.cells #[.int .i64 k.f0, .int .i64 k.f1, .string k.f2] 30)) (.cells #[.int .i64 v.f0, .int .i64 v.f1, .string v.f2] 30); simpa using this, by simp⟩
  rw [hw2]
  refine (box_Check.calls k.f0 k.f1 k.f2 0 w2 (by unfold box_Check.f; rw [if_pos HK.out.1])).mono ?_
  rintro r1 w3 ⟨rfl, hb3⟩
  have K3 := Lib.hid ((hb3.block w.heap.size (by omega)).trans hk2)
  have V3 := Lib.hid ((hb3.block (w.heap.size + 1) (by omega)).trans hv2)
  have B3 := Lib.hid (hb2.trans (hb3.mono (by omega)))
  have S3 : w.heap.size + 2 ≤ w3.heap.size := by have := hb3.size; omega
  clear hw2 hb2 hk2 hv2 hs2 hb3
  obtain ⟨v0, v1, v2⟩ := three_of V3.out
  go_wp2_with fail
  refine (box_Check.calls v.f0 v.f1 v.f2 0 w3 (by unfold box_Check.f; rw [if_pos HK.out.2])).mono ?_
  rintro r1 w4 ⟨rfl, hb4⟩
  have K4 := Lib.hid ((hb4.block w.heap.size (by omega)).trans K3.out)
  have V4 := Lib.hid ((hb4.block (w.heap.size + 1) (by omega)).trans V3.out)
  have B4 := Lib.hid (B3.out.trans (hb4.mono (by omega)))
  have S4 : w.heap.size + 2 ≤ w4.heap.size := by have := hb4.size; omega
  clear v0 v1 v2 hb4
  obtain ⟨k0, k1, k2⟩ := three_of K4.out
  go_wp2_with fail
  have hx := find_nil w4 k
  unfold kv at hx
  refine hx.mono ?_
  rintro r1 w5 ⟨rfl, hb5⟩
  have K5 := Lib.hid ((hb5.block w.heap.size (by omega)).trans K4.out)
  have V5 := Lib.hid ((hb5.block (w.heap.size + 1) (by omega)).trans V4.out)
  have B5 := Lib.hid (B4.out.trans (hb5.mono (by omega)))
  clear k0 k1 k2 hb5 hx
  obtain ⟨k0, k1, k2⟩ := three_of K5.out
  obtain ⟨v0, v1, v2⟩ := three_of V5.out
  have hmx : Try.prog.follows .mixedOrders = true := by kernel_rfl
  go_wp2_with fail
  have hx := insert_nil w5 ⟨k, v, 0⟩
  unfold nv at hx
  refine hx.mono ?_
  rintro r1 w6 ⟨rfl, hb6⟩
  have B6 := Lib.hid (B5.out.trans (hb6.mono B5.out.size))
  clear hb6 hx
  go_wp2_with fail
  go_ret2
  exact ⟨rfl, B6.out⟩
set_option maxHeartbeats 4000000 in
set_option maxRecDepth 100000 in
theorem new_bad (w : World) (s : Int) (hs : -9223372036854775808 ≤ s ∧ s ≤ 9223372036854775807) (h : ¬ RightN s) :
    Calls Try.prog 58 #[.int .i64 s] w fun e w' => e = .returned (.tuple #[.pointer none, .int .i64 1]) ∧ Below w.heap.size w w' := by
  rcases (show s < 0 ∨ 65536 < s ∨ (0 ≤ s ∧ s ≤ 65536) by omega) with h0 | h0 | h0
  · have a1 : decide (s < 0) = true := decide_eq_true h0
    clear h0 h hs
    go_enter Try.func58, Try.ntmps58
    go_wp2_with fail
    go_ret2
    exact ⟨rfl, Below.refl _ _⟩
  · have a1 : decide (s < 0) = false := decide_eq_false (by omega)
    have a2 : decide (s > 65536) = true := decide_eq_true (by omega)
    have a3 : decide (65536 < s) = true := decide_eq_true (by omega)
    clear h0 h hs
    go_enter Try.func58, Try.ntmps58
    go_wp2_with fail
    go_ret2
    exact ⟨rfl, Below.refl _ _⟩
  · have a1 : decide (s < 0) = false := decide_eq_false (by omega)
    have a2 : decide (s > 65536) = false := decide_eq_false (by omega)
    have a3 : decide (65536 < s) = false := decide_eq_false (by omega)
    have a4 : (Go.bits .and .i64 s (s - 1) == 0) = false := beq_eq_false_iff_ne.2 (bits_wrong h h0)
    have a5 : (Go.bits .and .i64 s (s - 1) != 0) = true := bne_iff_ne.2 (bits_wrong h h0)
    have a6 : IntKind.i64.wrap (s - 1) = s - 1 := IntWalk.i64_in _ (by omega)
    clear h0 h hs
    go_enter Try.func58, Try.ntmps58
    go_wp2_with fail
    go_ret2
    exact ⟨rfl, Below.refl _ _⟩
set_option maxHeartbeats 4000000 in
set_option maxRecDepth 100000 in
theorem at_bad {B g a cap : Nat} {l : List S67} {f : Int} {w : World} (h : IsP B g a cap l f w) (i : Int) (hi : i = -1 ∨ i = l.length) :
    Calls Try.prog 48 #[.pointer (some ⟨g, 0, none⟩), .int .i64 i] w fun e w' => e = .returned (nv zN) ∧ Below w.heap.size w w' := by
  have H := Lib.hid h
  have hlen := h.len
  clear h
  rcases hi with rfl | rfl
  all_goals
    first
      | (have p3 : decide ((l.length : Int) < 0) = false := decide_eq_false (by omega)
         have p4 : decide ((l.length : Int) ≥ l.length) = true := decide_eq_true (by omega)
         have p5 : decide ((l.length : Int) ≤ l.length) = true := decide_eq_true (by omega))
      | skip
    go_enter Try.func48, Try.ntmps48
    go_wp2_with fail
    obtain ⟨w1, hw1, hb1, hn1, hs1⟩ : ∃ w1, w.alloc (.cells #[.int .i64 0, .int .i64 0, .string (⟨#[]⟩ : ByteArray), .int .i64 0, .int .i64 0, .string (⟨#[]⟩ : ByteArray), .int .i64 0] 67) = w1 ∧ Below w.heap.size w w1 ∧ w1.heap[w.heap.size]? = some (.cells #[.int .i64 0, .int .i64 0, .string (⟨#[]⟩ : ByteArray), .int .i64 0, .int .i64 0, .string (⟨#[]⟩ : ByteArray), .int .i64 0] 67 (0, 0)) ∧ w1.heap.size = w.heap.size + 1 :=
      ⟨_, rfl, (Below.refl _ _).alloc (Nat.le_refl _) _, heap_alloc_new _ _, by simp⟩
    rw [hw1]
    have H1 := Lib.hid (H.out.below hb1)
    have HB := Lib.hid (And.intro hb1 hn1)
    clear hb1 hn1 hw1
    obtain ⟨z0, z1, z2, z3, z4, z5, z6⟩ := seven_of HB.out.2
    have u0 := blk_frozen HB.out.2 0
    have u1 := blk_frozen HB.out.2 1
    have u2 := blk_frozen HB.out.2 2
    have u3 := blk_frozen HB.out.2 3
    have u4 := blk_frozen HB.out.2 4
    have u5 := blk_frozen HB.out.2 5
    have u6 := blk_frozen HB.out.2 6
    go_wp2_with fail
    try (refine (size_call H1.out).mono ?_; rintro e1 w2 ⟨rfl, rfl⟩; go_wp2_with fail)
    obtain ⟨hb, hn⟩ := HB.out
    obtain ⟨G, hG⟩ : ∃ G, w.heap.size = G := ⟨_, rfl⟩
    rw [hG] at hb hn ⊢
    clear HB z0 z1 z2 z3 z4 z5 z6 u0 u1 u2 u3 u4 u5 u6
  · exact bodyPost_ret (results_cell_row rfl _ _ G 67 _ (0, 0) _ rfl hn Try.underlying67 rfl (by kernel_rfl)) rfl ⟨rfl, hb⟩
  · obtain ⟨hg, hB⟩ := seven_set (.int .i64 0) (.int .i64 0) (.string (⟨#[]⟩ : ByteArray)) (.int .i64 0) (.int .i64 0) (.string (⟨#[]⟩ : ByteArray)) (.int .i64 0) hn hb
    exact bodyPost_ret (results_cell_row rfl _ _ G 67 _ (0, 0) _ rfl hg Try.underlying67 rfl (by kernel_rfl)) rfl ⟨rfl, hB⟩
end Go.Proofs.Ytlmmhlabacghnaa.PH
