/- nodes: link. -/
import Derived.Test.YtlmmhlabacghnaaNF
import Derived.StillTailTactics
namespace Go.Proofs.Ytlmmhlabacghnaa.PH
open Go.RowKit Go.Proofs.YtlmmhlabacghnaaW.PrintWords Go.Proofs.YtlmmhlabacghnaaW.PrintLast Go.Proofs.YtlmmhlabacghnaaW.PrintMore
set_option linter.unusedVariables false
set_option linter.unusedSimpArgs false

/-- Below the heap's size all blocks but those in c are as they were. -/
structure Fr (c : Nat → Prop) (w w' : World) : Prop where
  os : w'.os = w.os
  tape : w'.tape = w.tape
  output : w'.output = w.output
  size : w.heap.size ≤ w'.heap.size
  block : ∀ k, k < w.heap.size → ¬ c k → w'.heap[k]? = w.heap[k]?
theorem Fr.refl (c : Nat → Prop) (w : World) : Fr c w w := ⟨rfl, rfl, rfl, Nat.le_refl _, fun _ _ _ => rfl⟩
theorem Fr.of_below {c : Nat → Prop} {w w' : World} (h : Below w.heap.size w w') : Fr c w w' := ⟨h.os, h.tape, h.output, h.size, fun k hk _ => h.block k hk⟩
theorem Fr.trans {c : Nat → Prop} {x y z : World} (h : Fr c x y) (k : Fr c y z) : Fr c x z :=
  ⟨k.os.trans h.os, k.tape.trans h.tape, k.output.trans h.output, Nat.le_trans h.size k.size, fun i hi hc => (k.block i (Nat.lt_of_lt_of_le hi h.size) hc).trans (h.block i hi hc)⟩
theorem Fr.imp {c c' : Nat → Prop} {w w' : World} (h : Fr c w w') (hc : ∀ k, c k → c' k) : Fr c' w w' := ⟨h.os, h.tape, h.output, h.size, fun k hk hn => h.block k hk (fun hk' => hn (hc k hk'))⟩
theorem seven_of {w : World} {g : Nat} {a b c d e f h : Value} {t : TypeId} (hk : w.heap[g]? = some (.cells #[a, b, c, d, e, f, h] t (0, 0))) : w.cell? ⟨g, 0, none⟩ = some a ∧ w.cell? ⟨g, 1, none⟩ = some b ∧ w.cell? ⟨g, 2, none⟩ = some c ∧ w.cell? ⟨g, 3, none⟩ = some d ∧ w.cell? ⟨g, 4, none⟩ = some e ∧ w.cell? ⟨g, 5, none⟩ = some f ∧ w.cell? ⟨g, 6, none⟩ = some h :=
  ⟨(blk_cell hk 0).trans rfl, (blk_cell hk 1).trans rfl, (blk_cell hk 2).trans rfl, (blk_cell hk 3).trans rfl, (blk_cell hk 4).trans rfl, (blk_cell hk 5).trans rfl, (blk_cell hk 6).trans rfl⟩
/-- The cells of a node. -/
def ncells (d : S67) : List Value := [.int .i64 d.f0.f0, .int .i64 d.f0.f1, .string d.f0.f2, .int .i64 d.f1.f0, .int .i64 d.f1.f1, .string d.f1.f2, .int .i64 d.f2]
theorem infoNode : (Try.prog.info? 67).map (·.size) = some 7 := by kernel_rfl

set_option maxHeartbeats 4000000 in
set_option maxRecDepth 100000 in
theorem link_call {B g a cap : Nat} {l : List S67} {f : Int} {w : World} (h : IsP B g a cap l f w) (hB : B ≤ w.heap.size) (i : Nat) (hi : i < l.length) (n like : S67) (m : Nat) (hm : m ≤ 65536) (hl : -65536 ≤ like.f2 ∧ like.f2 ≤ 65536) :
    Calls Try.prog 90 #[.pointer (some ⟨g, 0, none⟩), .int .i64 i, nv n, nv like, .int .i64 m] w fun e w' => e = .returned (.tuple #[]) ∧ IsP B g a cap (l.set i ⟨n.f0, n.f1, if like.f2 = 0 then 0 else (m : Int) + like.f2 - i⟩) f w' ∧ Fr (fun k => k = a) w w' := by
  unfold nv
  have H := Lib.hid h
  have HB := Lib.hid (And.intro hB (And.intro hi hl))
  have hlen := h.len
  clear h hB hl
  by_cases hz : like.f2 = 0
  · rw [if_pos hz, hz]
    go_enter Try.func90, Try.ntmps90
    go_wp2_with fail
    obtain ⟨w2, hw2, hb2, hn2, hs2⟩ : ∃ w2, (w.alloc (.cells #[.int .i64 n.f0.f0, .int .i64 n.f0.f1, .string n.f0.f2, .int .i64 n.f1.f0, .int .i64 n.f1.f1, .string n.f1.f2, .int .i64 (0)] 67)).alloc (.cells #[.int .i64 like.f0.f0, .int .i64 like.f0.f1, .string like.f0.f2, .int .i64 like.f1.f0, .int .i64 like.f1.f1, .string like.f1.f2, .int .i64 0] 67) = w2 ∧ Below w.heap.size w w2 ∧
        w2.heap[w.heap.size]? = some (.cells #[.int .i64 n.f0.f0, .int .i64 n.f0.f1, .string n.f0.f2, .int .i64 n.f1.f0, .int .i64 n.f1.f1, .string n.f1.f2, .int .i64 (0)] 67 (0, 0)) ∧ w2.heap.size = w.heap.size + 2 :=
      ⟨_, rfl, ((Below.refl _ _).alloc (Nat.le_refl _) _).alloc (by simp) _, (Below.heap_alloc _ _ _ (by simp)).trans (heap_alloc_new _ _), by simp⟩
    rw [hw2]
    have I2 := H.out.below hb2
    obtain ⟨x0, x1, y0, y1⟩ := two_of I2.blk
    obtain ⟨n0, n1, n2, n3, n4, n5, n6⟩ := seven_of hn2
    have p1 : 0 ≤ (i : Int) := by omega
    have p2 : (i : Int) < (l.length : Int) := by omega
    replace p1 := eq_true p1
    replace p2 := eq_true p2
    have P := Lib.hid (And.intro I2 (And.intro hb2 hs2))
    clear I2 hb2 hs2 hn2 hw2
    have hmx : Try.prog.follows .mixedOrders = true := by kernel_rfl
    go_still_tail 7, (by kernel_rfl)
    change wpList _ _ _ _ _ w2.drew
    refine Kd.R_store k67 (w0 := w) (W := w2.drew) B rfl rfl 67 (.tmp 27) (.tmp 26) rfl 67 (i : Int) 0 l ⟨n.f0, n.f1, 0⟩ (nv ⟨n.f0, n.f1, 0⟩) (ncells ⟨n.f0, n.f1, 0⟩) (ncells (nd l i)) (fun k => k = a) (fun _ => False) rfl (by rw [Int.toNat_natCast]; rfl) rfl rfl infoNode (by intro q hq; simp [ncells] at hq; rcases hq with rfl | rfl | rfl | rfl | rfl | rfl | rfl <;> rfl) (Kd.R_drew P.out.1.row) (by omega) (by omega) rfl ?cc (show 0 + 7 ≤ 7 by decide) ?M (fun _ hk => hk.elim) ?HB ?_
    case cc =>
      obtain ⟨c0, c1, c2, c3, c4, c5, c6⟩ := P.out.1.at i hi
      intro j u hu
      rw [Int.toNat_natCast]
      match j, hu with
      | 0, hu => cases hu; exact c0
      | 1, hu => cases hu; exact c1
      | 2, hu => cases hu; exact c2
      | 3, hu => cases hu; exact c3
      | 4, hu => cases hu; exact c4
      | 5, hu => cases hu; exact c5
      | 6, hu => cases hu; exact c6
      | j + 7, hu => simp [ncells] at hu
    case M => exact k67_mkM _ _ _ _
    case HB => exact (P.out.2.1.mono HB.out.1).drew
    intro w3 hR3 hb3 hg3
    obtain ⟨I2, hb2, hs2⟩ := P.out
    have hgl := (Array.getElem?_eq_some_iff.1 I2.blk).1
    have hI3 : IsP B g a cap (l.set i ⟨n.f0, n.f1, 0⟩) f w3 := by
      rw [Int.toNat_natCast] at hR3
      refine ⟨?_, ?_, I2.ne, by rw [List.length_set]; exact I2.len⟩
      · rw [List.length_set]
        exact (hg3.block g hgl (fun e => I2.ne (by cases e; rfl))).trans I2.blk
      · rw [List.length_set]
        exact hR3
    have hF3 : Fr (fun k => k = a) w w3 := (Fr.of_below hb2).trans ⟨hg3.os, hg3.tape, hg3.output, hg3.size, fun k hk hka => hg3.block k hk (fun e => hka (by cases e; rfl))⟩
    have Q := Lib.hid (And.intro hI3 hF3)
    clear hR3 hb3 hg3 hI3 hF3 I2 hb2 hs2 P H HB hgl
    go_wp2_with fail
    go_end0
    exact ⟨rfl, Q.out⟩
  · rw [if_neg hz]
    have hzb : (like.f2 == 0) = false := beq_eq_false_iff_ne.2 hz
    have hzn : (like.f2 != 0) = true := bne_iff_ne.2 hz
    have w1_ : IntKind.i64.wrap ((m : Int) + like.f2) = (m : Int) + like.f2 := IntWalk.i64_in _ (by have := HB.out; omega)
    have w2_ : IntKind.i64.wrap ((m : Int) + like.f2 - i) = (m : Int) + like.f2 - i := IntWalk.i64_in _ (by have := HB.out; omega)
    have r1_ : -9223372036854775808 ≤ (m : Int) + like.f2 - i ∧ (m : Int) + like.f2 - i ≤ 9223372036854775807 := by have := HB.out; omega
    have r2_ : -9223372036854775808 ≤ (m : Int) + like.f2 ∧ (m : Int) + like.f2 ≤ 9223372036854775807 := by have := HB.out; omega
    go_enter Try.func90, Try.ntmps90
    go_wp2_with fail
    obtain ⟨w2, hw2, hb2, hn2, hs2⟩ : ∃ w2, (w.alloc (.cells #[.int .i64 n.f0.f0, .int .i64 n.f0.f1, .string n.f0.f2, .int .i64 n.f1.f0, .int .i64 n.f1.f1, .string n.f1.f2, .int .i64 ((m : Int) + like.f2 - i)] 67)).alloc (.cells #[.int .i64 like.f0.f0, .int .i64 like.f0.f1, .string like.f0.f2, .int .i64 like.f1.f0, .int .i64 like.f1.f1, .string like.f1.f2, .int .i64 like.f2] 67) = w2 ∧ Below w.heap.size w w2 ∧
        w2.heap[w.heap.size]? = some (.cells #[.int .i64 n.f0.f0, .int .i64 n.f0.f1, .string n.f0.f2, .int .i64 n.f1.f0, .int .i64 n.f1.f1, .string n.f1.f2, .int .i64 ((m : Int) + like.f2 - i)] 67 (0, 0)) ∧ w2.heap.size = w.heap.size + 2 :=
      ⟨_, rfl, ((Below.refl _ _).alloc (Nat.le_refl _) _).alloc (by simp) _, (Below.heap_alloc _ _ _ (by simp)).trans (heap_alloc_new _ _), by simp⟩
    rw [hw2]
    have I2 := H.out.below hb2
    obtain ⟨x0, x1, y0, y1⟩ := two_of I2.blk
    obtain ⟨n0, n1, n2, n3, n4, n5, n6⟩ := seven_of hn2
    have p1 : 0 ≤ (i : Int) := by omega
    have p2 : (i : Int) < (l.length : Int) := by omega
    replace p1 := eq_true p1
    replace p2 := eq_true p2
    have P := Lib.hid (And.intro I2 (And.intro hb2 hs2))
    clear I2 hb2 hs2 hn2 hw2
    have hmx : Try.prog.follows .mixedOrders = true := by kernel_rfl
    go_still_tail 7, (by kernel_rfl)
    change wpList _ _ _ _ _ w2.drew
    refine Kd.R_store k67 (w0 := w) (W := w2.drew) B rfl rfl 67 (.tmp 27) (.tmp 26) rfl 67 (i : Int) 0 l ⟨n.f0, n.f1, (m : Int) + like.f2 - i⟩ (nv ⟨n.f0, n.f1, (m : Int) + like.f2 - i⟩) (ncells ⟨n.f0, n.f1, (m : Int) + like.f2 - i⟩) (ncells (nd l i)) (fun k => k = a) (fun _ => False) rfl (by rw [Int.toNat_natCast]; rfl) rfl rfl infoNode (by intro q hq; simp [ncells] at hq; rcases hq with rfl | rfl | rfl | rfl | rfl | rfl | rfl <;> rfl) (Kd.R_drew P.out.1.row) (by omega) (by omega) rfl ?cc (show 0 + 7 ≤ 7 by decide) ?M (fun _ hk => hk.elim) ?HB ?_
    case cc =>
      obtain ⟨c0, c1, c2, c3, c4, c5, c6⟩ := P.out.1.at i hi
      intro j u hu
      rw [Int.toNat_natCast]
      match j, hu with
      | 0, hu => cases hu; exact c0
      | 1, hu => cases hu; exact c1
      | 2, hu => cases hu; exact c2
      | 3, hu => cases hu; exact c3
      | 4, hu => cases hu; exact c4
      | 5, hu => cases hu; exact c5
      | 6, hu => cases hu; exact c6
      | j + 7, hu => simp [ncells] at hu
    case M => exact k67_mkM _ _ _ _
    case HB => exact (P.out.2.1.mono HB.out.1).drew
    intro w3 hR3 hb3 hg3
    obtain ⟨I2, hb2, hs2⟩ := P.out
    have hgl := (Array.getElem?_eq_some_iff.1 I2.blk).1
    have hI3 : IsP B g a cap (l.set i ⟨n.f0, n.f1, (m : Int) + like.f2 - i⟩) f w3 := by
      rw [Int.toNat_natCast] at hR3
      refine ⟨?_, ?_, I2.ne, by rw [List.length_set]; exact I2.len⟩
      · rw [List.length_set]
        exact (hg3.block g hgl (fun e => I2.ne (by cases e; rfl))).trans I2.blk
      · rw [List.length_set]
        exact hR3
    have hF3 : Fr (fun k => k = a) w w3 := (Fr.of_below hb2).trans ⟨hg3.os, hg3.tape, hg3.output, hg3.size, fun k hk hka => hg3.block k hk (fun e => hka (by cases e; rfl))⟩
    have Q := Lib.hid (And.intro hI3 hF3)
    clear hR3 hb3 hg3 hI3 hF3 I2 hb2 hs2 P H HB hgl
    go_wp2_with fail
    go_end0
    exact ⟨rfl, Q.out⟩
end Go.Proofs.Ytlmmhlabacghnaa.PH
