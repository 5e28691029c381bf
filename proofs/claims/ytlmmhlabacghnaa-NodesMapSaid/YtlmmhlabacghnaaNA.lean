/- nodes: At, Dump. -/
import Derived.Test.YtlmmhlabacghnaaNN
namespace Go.Proofs.Ytlmmhlabacghnaa.PH
open Go.RowKit Go.Proofs.YtlmmhlabacghnaaW.PrintWords Go.Proofs.YtlmmhlabacghnaaW.PrintLast Go.Proofs.YtlmmhlabacghnaaW.PrintMore
set_option linter.unusedVariables false
set_option linter.unusedSimpArgs false

theorem seven_set {w : World} {G : Nat} {t : TypeId} {a b c d e f h : Value} (x0 x1 x2 x3 x4 x5 x6 : Value) (hn : w.heap[G]? = some (.cells #[a, b, c, d, e, f, h] t (0, 0))) {W0 : World} (hb : Below G W0 w) :
    (((((((w.setCell ⟨G, 0, none⟩ x0).setCell ⟨G, 1, none⟩ x1).setCell ⟨G, 2, none⟩ x2).setCell ⟨G, 3, none⟩ x3).setCell ⟨G, 4, none⟩ x4).setCell ⟨G, 5, none⟩ x5).setCell ⟨G, 6, none⟩ x6).heap[G]? = some (.cells #[x0, x1, x2, x3, x4, x5, x6] t (0, 0)) ∧
    Below G W0 (((((((w.setCell ⟨G, 0, none⟩ x0).setCell ⟨G, 1, none⟩ x1).setCell ⟨G, 2, none⟩ x2).setCell ⟨G, 3, none⟩ x3).setCell ⟨G, 4, none⟩ x4).setCell ⟨G, 5, none⟩ x5).setCell ⟨G, 6, none⟩ x6) := by
  have hle : G ≤ G := Nat.le_refl _
  refine ⟨?_, ((((((hb.setCell (p := ⟨G, 0, none⟩) hle x0).setCell (p := ⟨G, 1, none⟩) hle x1).setCell (p := ⟨G, 2, none⟩) hle x2).setCell (p := ⟨G, 3, none⟩) hle x3).setCell (p := ⟨G, 4, none⟩) hle x4).setCell (p := ⟨G, 5, none⟩) hle x5).setCell (p := ⟨G, 6, none⟩) hle x6⟩
  refine blk_put (cs := #[x0, x1, x2, x3, x4, x5, h]) ?_ 6 _ rfl
  refine blk_put (cs := #[x0, x1, x2, x3, x4, f, h]) ?_ 5 _ rfl
  refine blk_put (cs := #[x0, x1, x2, x3, e, f, h]) ?_ 4 _ rfl
  refine blk_put (cs := #[x0, x1, x2, d, e, f, h]) ?_ 3 _ rfl
  refine blk_put (cs := #[x0, x1, c, d, e, f, h]) ?_ 2 _ rfl
  refine blk_put (cs := #[x0, b, c, d, e, f, h]) ?_ 1 _ rfl
  refine blk_put (cs := #[a, b, c, d, e, f, h]) ?_ 0 _ rfl
  exact hn
set_option maxHeartbeats 4000000 in
set_option maxRecDepth 100000 in
theorem at_call {B g a cap : Nat} {l : List S67} {f : Int} {w : World} (h : IsP B g a cap l f w) (i : Nat) (hi : i < l.length) :
    Calls Try.prog 48 #[.pointer (some ⟨g, 0, none⟩), .int .i64 i] w fun e w' => e = .returned (nv (nd l i)) ∧ Below w.heap.size w w' := by
  have H := Lib.hid h
  have p1 : 0 ≤ (i : Int) := by omega
  have p2 : (i : Int) < (l.length : Int) := by omega
  have hlen := h.len
  have hii : (i : Int) ≤ 65536 := by omega
  replace p1 := eq_true p1
  replace p2 := eq_true p2
  have p3 : decide ((i : Int) < 0) = false := decide_eq_false (by omega)
  have p4 : decide ((i : Int) ≥ l.length) = false := decide_eq_false (by omega)
  have p5 : decide ((l.length : Int) ≤ i) = false := decide_eq_false (by omega)
  have p6 : decide (l.length ≤ i) = false := decide_eq_false (by omega)
  have p7 : ((l.length : Int) ≤ (i : Int)) = False := eq_false (by omega)
  have p8 : (l.length ≤ i) = False := eq_false (by omega)
  have HI := Lib.hid hi
  clear h hi
  go_enter Try.func48, Try.ntmps48
  go_wp2_with fail
  obtain ⟨w1, hw1, hb1, hn1, hs1⟩ : ∃ w1, w.alloc (.cells #[.int .i64 0, .int .i64 0, .string (⟨#[]⟩ : ByteArray), .int .i64 0, .int .i64 0, .string (⟨#[]⟩ : ByteArray), .int .i64 0] 67) = w1 ∧ Below w.heap.size w w1 ∧ w1.heap[w.heap.size]? = some (.cells #[.int .i64 0, .int .i64 0, .string (⟨#[]⟩ : ByteArray), .int .i64 0, .int .i64 0, .string (⟨#[]⟩ : ByteArray), .int .i64 0] 67 (0, 0)) ∧ w1.heap.size = w.heap.size + 1 :=
    ⟨_, rfl, (Below.refl _ _).alloc (Nat.le_refl _) _, heap_alloc_new _ _, by simp⟩
  rw [hw1]
  have H1 := Lib.hid (H.out.below hb1)
  refine (size_call H1.out).mono ?_
  rintro e1 w2 ⟨rfl, rfl⟩
  have HB := Lib.hid (And.intro hb1 hn1)
  clear hb1 hn1 hw1
  obtain ⟨x0, x1, y0, y1⟩ := two_of H1.out.blk
  obtain ⟨e0, e1, e2, e3, e4, e5, e6⟩ := H1.out.at i HI.out
  obtain ⟨z0, z1, z2, z3, z4, z5, z6⟩ := seven_of HB.out.2
  have u0 := blk_frozen HB.out.2 0
  have u1 := blk_frozen HB.out.2 1
  have u2 := blk_frozen HB.out.2 2
  have u3 := blk_frozen HB.out.2 3
  have u4 := blk_frozen HB.out.2 4
  have u5 := blk_frozen HB.out.2 5
  have u6 := blk_frozen HB.out.2 6
  go_wp2_with fail
  obtain ⟨hb, hn⟩ := HB.out
  obtain ⟨G, hG⟩ : ∃ G, w.heap.size = G := ⟨_, rfl⟩
  rw [hG] at hb hn ⊢
  clear HB z0 z1 z2 z3 z4 z5 z6 u0 u1 u2 u3 u4 u5 u6 e0 e1 e2 e3 e4 e5 e6 x0 x1 y0 y1
  obtain ⟨hg, hB⟩ := seven_set (.int .i64 (nd l i).f0.f0) (.int .i64 (nd l i).f0.f1) (.string (nd l i).f0.f2) (.int .i64 (nd l i).f1.f0) (.int .i64 (nd l i).f1.f1) (.string (nd l i).f1.f2) (.int .i64 (nd l i).f2) hn hb
  exact bodyPost_ret (results_cell_row rfl _ _ G 67 _ (0, 0) _ rfl hg Try.underlying67 rfl (by kernel_rfl)) rfl ⟨rfl, hB⟩
end Go.Proofs.Ytlmmhlabacghnaa.PH
