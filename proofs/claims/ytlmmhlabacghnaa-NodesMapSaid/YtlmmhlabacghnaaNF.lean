/- nodes: Find. -/
import Derived.Test.YtlmmhlabacghnaaNH
import Derived.Deep.LoopGhost
namespace Go.Proofs.Ytlmmhlabacghnaa.PH
open Go.RowKit Go.Proofs.YtlmmhlabacghnaaW.PrintWords Go.Proofs.YtlmmhlabacghnaaW.PrintLast Go.Proofs.YtlmmhlabacghnaaW.PrintMore
set_option linter.unusedVariables false
set_option linter.unusedSimpArgs false

def nd (l : List S67) (i : Nat) : S67 := l.getD i z67
/-- Is it the same key? -/
def eqk (x y : S30) : Bool := x.f0 == y.f0 && (x.f1 == y.f1 && x.f2.toList == y.f2.toList)
/-- Along the links from a node on: where the key is, and how many nodes were read. -/
def findL (l : List S67) (k : S30) : Nat → Nat → Int → Option (Int × Int)
  | 0, _, _ => none
  | f + 1, i, r => if i < l.length then (if eqk (nd l i).f0 k = true then some ((i : Int), r) else if (nd l i).f2 = 0 then some (-1, r) else if 0 ≤ (i : Int) + (nd l i).f2 ∧ (i : Int) + (nd l i).f2 ≤ 65536 ∧ r ≤ 4611686018427387904 then findL l k f ((i : Int) + (nd l i).f2).toNat (r + 1) else none) else none
theorem IsP.at {B g a cap : Nat} {l : List S67} {f : Int} {w : World} (h : IsP B g a cap l f w) (i : Nat) (hi : i < l.length) :
    w.cell? ⟨a, i * 7, none⟩ = some (.int .i64 (nd l i).f0.f0) ∧ w.cell? ⟨a, i * 7 + 1, none⟩ = some (.int .i64 (nd l i).f0.f1) ∧ w.cell? ⟨a, i * 7 + 2, none⟩ = some (.string (nd l i).f0.f2) ∧ w.cell? ⟨a, i * 7 + 3, none⟩ = some (.int .i64 (nd l i).f1.f0) ∧ w.cell? ⟨a, i * 7 + 4, none⟩ = some (.int .i64 (nd l i).f1.f1) ∧ w.cell? ⟨a, i * 7 + 5, none⟩ = some (.string (nd l i).f1.f2) ∧ w.cell? ⟨a, i * 7 + 6, none⟩ = some (.int .i64 (nd l i).f2) := by
  obtain ⟨c, hcl, hM, hc, hfz⟩ := Kd.R_elem h.row z67 (i : Int) (by omega) (by omega)
  rw [Int.toNat_natCast] at hM hc
  obtain rfl := k67_openM hM
  exact ⟨hc 0 _ rfl, hc 1 _ rfl, hc 2 _ rfl, hc 3 _ rfl, hc 4 _ rfl, hc 5 _ rfl, hc 6 _ rfl⟩

theorem toList_data (x : ByteArray) : x.toList = x.data.toList := by
  first | exact ByteArray.toList_eq x | simp
theorem eqk_true {x y : S30} (h : eqk x y = true) : x = y := by
  obtain ⟨a, b, c⟩ := x
  obtain ⟨d, e, f⟩ := y
  simp only [eqk, Bool.and_eq_true, beq_iff_eq, toList_data] at h
  obtain ⟨rfl, rfl, h2⟩ := h
  obtain rfl : c = f := by
    obtain ⟨⟨c⟩⟩ := c
    obtain ⟨⟨f⟩⟩ := f
    obtain rfl : c = f := h2
    rfl
  rfl
theorem eqk_false {x y : S30} (h : eqk x y = false) : ¬ x.f0 = y.f0 ∨ (x.f0 = y.f0 ∧ ¬ x.f1 = y.f1) ∨ (x.f0 = y.f0 ∧ x.f1 = y.f1 ∧ (x.f2.toList == y.f2.toList) = false) := by
  unfold eqk at h
  by_cases h0 : x.f0 = y.f0
  · by_cases h1 : x.f1 = y.f1
    · rw [beq_iff_eq.2 h0, beq_iff_eq.2 h1, Bool.true_and, Bool.true_and] at h
      exact .inr (.inr ⟨h0, h1, h⟩)
    · exact .inr (.inl ⟨h0, h1⟩)
  · exact .inl h0
theorem alloc_cell {w : World} {p : Addr} {v : Value} (h : w.cell? p = some v) (o : Obj) : (w.alloc o).cell? p = some v :=
  ((((Below.refl w.heap.size w).alloc (Nat.le_refl _) o)).cell (World.block_lt_of_cell? w _ h)).trans h
theorem three_of {w : World} {g : Nat} {x y z : Value} {t : TypeId} (h : w.heap[g]? = some (.cells #[x, y, z] t (0, 0))) : w.cell? ⟨g, 0, none⟩ = some x ∧ w.cell? ⟨g, 1, none⟩ = some y ∧ w.cell? ⟨g, 2, none⟩ = some z :=
  ⟨(blk_cell h 0).trans rfl, (blk_cell h 1).trans rfl, (blk_cell h 2).trans rfl⟩
set_option maxHeartbeats 4000000 in
set_option maxRecDepth 100000 in
theorem find_call {B g a cap : Nat} {l : List S67} {f : Int} {w : World} (h : IsP B g a cap l f w) (k : S30) (m : Nat) (hm : hash_Main.f k.f0 k.f1 k.f2 l.length = some ((m : Int), 0)) (h0 : 0 < l.length) (n : Nat) (at_ r : Int) (hf : findL l k n m 1 = some (at_, r)) :
    Calls Try.prog 53 #[.pointer (some ⟨g, 0, none⟩), kv k] w fun e w' => e = .returned (.tuple #[.int .i64 at_, .int .i64 r]) ∧ Below w.heap.size w w' := by
  unfold kv
  have H := Lib.hid h
  have HF := Lib.hid (And.intro hm hf)
  clear h hm hf
  go_enter Try.func53, Try.ntmps53
  go_wp2_with fail
  obtain ⟨w1, hw1, hb1, hk1, hs1⟩ : ∃ w1, w.alloc (.cells #[.int .i64 k.f0, .int .i64 k.f1, .string k.f2] 30) = w1 ∧ Below w.heap.size w w1 ∧ w1.heap[w.heap.size]? = some (.cells #[.int .i64 k.f0, .int .i64 k.f1, .string k.f2] 30 (0, 0)) ∧ w1.heap.size = w.heap.size + 1 :=
    ⟨_, rfl, (Below.refl _ _).alloc (Nat.le_refl _) _, heap_alloc_new _ _, by simp⟩
  rw [hw1]
  have H1 := Lib.hid (H.out.below hb1)
  have hx := main_call H1.out k m 0 HF.out.1 h0
  unfold kv at hx
  refine hx.mono ?_
  rintro e w2 ⟨rfl, hb2⟩
  have H2 := Lib.hid (H1.out.below hb2)
  have K2 := Lib.hid ((hb2.block w.heap.size (by omega)).trans hk1)
  have B2 := Lib.hid (hb1.trans (hb2.mono (by omega)))
  have S2 : w.heap.size + 1 ≤ w2.heap.size := by have := hb2.size; omega
  clear hx hw1 hb1 hk1 hs1 hb2 H1
  simp only [beq_self_eq_true]
  go_wp2_with fail
  go_loopg [6, 8] n (fun kq v6 v8 wr => ∃ (i : Nat) (q : Int), v6 = .int .i64 i ∧ v8 = .int .i64 q ∧ 0 ≤ q ∧ RowKit.Hid (findL l k kq i q = some (at_, r)) ∧ RowKit.Hid (IsP B g a cap l f wr) ∧ RowKit.Hid (wr.heap[w.heap.size]? = some (.cells #[.int .i64 k.f0, .int .i64 k.f1, .string k.f2] 30 (0, 0))) ∧ RowKit.Hid (Below w.heap.size w wr) ∧ w.heap.size + 1 ≤ wr.heap.size)
  case atStart => exact ⟨m, 1, rfl, rfl, by omega, Lib.hid HF.out.2, H2, K2, B2, S2⟩
  case round =>
    obtain ⟨i, q, rfl, rfl, hq0, hfi, hI, hK, hB, hS⟩ := hrel
    cases gk with
    | zero => exact absurd hfi.out (by simp [findL])
    | succ k1 =>
      have hfi2 := hfi.out
      simp only [findL] at hfi2
      by_cases hi : i < l.length
      · rw [if_pos hi] at hfi2
        obtain ⟨x0, x1, y0, y1⟩ := two_of hI.out.blk
        obtain ⟨e0, e1, e2, e3, e4, e5, e6⟩ := hI.out.at i hi
        obtain ⟨z0, z1, z2⟩ := three_of hK.out
        have za := alloc_cell z0 (.cells #[.int .i64 (nd l i).f0.f0, .int .i64 (nd l i).f0.f1, .string (nd l i).f0.f2, .int .i64 (nd l i).f1.f0, .int .i64 (nd l i).f1.f1, .string (nd l i).f1.f2, .int .i64 (nd l i).f2] 67)
        have zb := alloc_cell z1 (.cells #[.int .i64 (nd l i).f0.f0, .int .i64 (nd l i).f0.f1, .string (nd l i).f0.f2, .int .i64 (nd l i).f1.f0, .int .i64 (nd l i).f1.f1, .string (nd l i).f1.f2, .int .i64 (nd l i).f2] 67)
        have zc := alloc_cell z2 (.cells #[.int .i64 (nd l i).f0.f0, .int .i64 (nd l i).f0.f1, .string (nd l i).f0.f2, .int .i64 (nd l i).f1.f0, .int .i64 (nd l i).f1.f1, .string (nd l i).f1.f2, .int .i64 (nd l i).f2] 67)
        have p1 : 0 ≤ (i : Int) := by omega
        have p2 : (i : Int) < (l.length : Int) := by omega
        replace p1 := eq_true p1
        replace p2 := eq_true p2
        have hsz : i ≤ 65536 := by have := H.out.len; omega
        have F2 := Lib.hid hfi2
        clear hfi2 hfi HF H2 K2 B2 hi
        by_cases he : eqk (nd l i).f0 k = true
        · have hk : (nd l i).f0 = k := eqk_true he
          rw [if_pos he] at F2
          rw [hk] at e0 e1 e2 za zb zc
          clear he
          go_wp2_with fail
          go_ret2
          have F3 := F2.out
          cases F3
          exact ⟨rfl, hB.out.trans (((Below.refl wr.heap.size wr).alloc (Nat.le_refl _) _).mono (by omega))⟩
        · have he' : eqk (nd l i).f0 k = false := by simpa using he
          rw [if_neg he] at F2
          rcases eqk_false he' with q0 | ⟨q0, q1⟩ | ⟨q0, q1, q2⟩
          all_goals (first | (have b0 := beq_eq_false_iff_ne.2 q0; have d0 := decide_eq_false q0; have u0 := eq_false q0) | (rw [q0] at e0 za zb zc))
          all_goals (try (first | (have b1 := beq_eq_false_iff_ne.2 q1; have d1 := decide_eq_false q1; have u1 := eq_false q1) | (rw [q1] at e1 za zb zc)))
          all_goals (try (have d2 := decide_eq_false (beq_eq_false_iff_ne.1 q2)))
          all_goals
            by_cases hz : (nd l i).f2 = 0
            · rw [if_pos hz] at F2
              rw [hz] at e6 za zb zc
              clear he he' hz
              go_wp2_with fail
              go_ret2
              have F3 := F2.out
              cases F3
              exact ⟨rfl, hB.out.trans (((Below.refl wr.heap.size wr).alloc (Nat.le_refl _) _).mono (by omega))⟩
            · rw [if_neg hz] at F2
              have hzb : ((nd l i).f2 == 0) = false := beq_eq_false_iff_ne.2 hz
              have F3 := F2.out
              split at F3
              case isFalse => cases F3
              case isTrue hb =>
              obtain ⟨hb1, hb2, hb3⟩ := hb
              have F4 := Lib.hid (And.intro F3 (And.intro hb1 (And.intro hb2 hb3)))
              have q9 : IntKind.i64.wrap ((i : Int) + (nd l i).f2) = (i : Int) + (nd l i).f2 := IntWalk.i64_in _ (by omega)
              have QQ := Lib.hid hq0
              clear F3 F2 he he'
              go_wp2_with fail
              go_roundg k1
              case measure => omega
              case rel =>
                obtain ⟨hfl, hc1, hc2, hc3⟩ := F4.out
                refine ⟨((i : Int) + (nd l i).f2).toNat, q + 1, ?_, ?_, by have := QQ.out; omega, Lib.hid hfl, Lib.hid (hI.out.below ((Below.refl wr.heap.size wr).alloc (Nat.le_refl _) _)), Lib.hid ((Below.heap_alloc _ _ _ (by omega)).trans hK.out), Lib.hid (hB.out.alloc (by omega) _), by simp; omega⟩
                · exact congrArg (Value.int .i64) (by omega)
                · exact congrArg (Value.int .i64) (by have := QQ.out; first | rfl | (unfold wrap64; omega))
      · rw [if_neg hi] at hfi2
        cases hfi2
end Go.Proofs.Ytlmmhlabacghnaa.PH
