/- nodes: insert, way by way. -/
import Derived.Test.YtlmmhlabacghnaaNRo
namespace Go.Proofs.Ytlmmhlabacghnaa.PH
open Go.RowKit Go.Proofs.YtlmmhlabacghnaaW.PrintWords Go.Proofs.YtlmmhlabacghnaaW.PrintLast Go.Proofs.YtlmmhlabacghnaaW.PrintMore
set_option linter.unusedVariables false
set_option linter.unusedSimpArgs false

/-- A node is stored. -/
theorem IsP.store {ops : Array Oper} {rest : List Oper} {o : Oper} {ac : Act} {Q : Exit → Act → World → Prop} {B g a cap : Nat} {l : List S67} {f : Int} {W : World} (h : IsP B g a cap l f W) (hN : o.dst = none) (hgd : o.guard = none) (p x : Operand) (ho : o.op = .store 67 p x)
    (i : Nat) (hi : i < l.length) (d : S67) (hp : ac.eval p = .pointer (some ⟨a, i * 7, none⟩)) (hx : ac.eval x = nv d) (hK : ∀ w1, IsP B g a cap (l.set i d) f w1 → Fr (fun k => k = a) W w1 → wpList Try.prog ops Q rest ac w1) : wpList Try.prog ops Q (o :: rest) ac W := by
  refine Kd.R_store k67 (w0 := W) (W := W) B hN hgd 67 p x ho 67 (i : Int) 0 l d (nv d) (ncells d) (ncells (nd l i)) (fun k => k = a) (fun _ => False) hp (by rw [Int.toNat_natCast]; rfl) hx rfl infoNode (by intro q hq; simp [ncells] at hq; rcases hq with rfl | rfl | rfl | rfl | rfl | rfl | rfl <;> rfl) h.row (by omega) (by omega) rfl ?cc (show 0 + 7 ≤ 7 by decide) ?M (fun _ hk => hk.elim) (Below.refl _ _) ?_
  case cc =>
    obtain ⟨c0, c1, c2, c3, c4, c5, c6⟩ := h.at i hi
    intro j u hu
    rw [Int.toNat_natCast]
    match j, hu with
    | 0, hu => cases hu; exact c0
    | 1, hu => cases hu; exact c1
    | 2, hu => cases hu; exact c2
    | 3, hu => cases hu; exact c3
    | 4, hu => cases hu; exact c4
    | 5, hu => cases hu; exact c5
    | 6, hu => cases hu; exact c6
    | j + 7, hu => simp [ncells] at hu
  case M => exact k67_mkM _ _ _ _
  intro w1 hR hb hg
  have hgl := (Array.getElem?_eq_some_iff.1 h.blk).1
  refine hK w1 ?_ ⟨hg.os, hg.tape, hg.output, hg.size, fun k hk hka => hg.block k hk (fun e => hka (by cases e; rfl))⟩
  rw [Int.toNat_natCast] at hR
  refine ⟨?_, ?_, h.ne, by rw [List.length_set]; exact h.len⟩
  · rw [List.length_set]
    exact (hg.block g hgl (fun e => h.ne (by cases e; rfl))).trans h.blk
  · rw [List.length_set]
    exact hR
theorem IsP.drew {B g a cap : Nat} {l : List S67} {f : Int} {w : World} (h : IsP B g a cap l f w) : IsP B g a cap l f w.drew := h.below (Below.refl _ _).drew

set_option maxHeartbeats 4000000 in
set_option maxRecDepth 100000 in
/-- The key's main position is free. -/
theorem insert_a {B g a cap : Nat} {l : List S67} {f : Int} {w : World} (h : IsP B g a cap l f w) (n : S67) (m : Nat) (hm : hash_Main.f n.f0.f0 n.f0.f1 n.f0.f2 l.length = some ((m : Int), 0)) (hml : m < l.length) (he : (nd l m).f0.f0 = 0) :
    Calls Try.prog 80 #[.pointer (some ⟨g, 0, none⟩), nv n] w fun e w' => e = .returned (.int .i64 0) ∧ IsP B g a cap (l.set m n) f w' ∧ Fr (fun k => k = a) w w' := by
  unfold nv
  have H := Lib.hid (And.intro h (And.intro hm (And.intro hml he)))
  have hlen := h.len
  have hmm : (m : Int) ≤ 65536 := by omega
  have p1 : 0 ≤ (m : Int) := by omega
  have p2 : (m : Int) < (l.length : Int) := by omega
  replace p1 := eq_true p1
  replace p2 := eq_true p2
  clear h hm hml he
  go_enter Try.func80, Try.ntmps80
  go_wp2_with fail
  obtain ⟨w1, hw1, hb1, hn1, hs1⟩ : ∃ w1, w.alloc (.cells #[.int .i64 n.f0.f0, .int .i64 n.f0.f1, .string n.f0.f2, .int .i64 n.f1.f0, .int .i64 n.f1.f1, .string n.f1.f2, .int .i64 n.f2] 67) = w1 ∧ Below w.heap.size w w1 ∧
      w1.heap[w.heap.size]? = some (.cells #[.int .i64 n.f0.f0, .int .i64 n.f0.f1, .string n.f0.f2, .int .i64 n.f1.f0, .int .i64 n.f1.f1, .string n.f1.f2, .int .i64 n.f2] 67 (0, 0)) ∧ w1.heap.size = w.heap.size + 1 :=
    ⟨_, rfl, (Below.refl _ _).alloc (Nat.le_refl _) _, heap_alloc_new _ _, by simp⟩
  rw [hw1]
  have hx := main_call (H.out.1.below hb1) n.f0 m 0 H.out.2.1 (by have := H.out.2.2.1; omega)
  unfold kv at hx
  refine hx.mono ?_
  rintro e w2 ⟨rfl, hb2⟩
  simp only [beq_self_eq_true]
  have I2 := Lib.hid ((H.out.1.below hb1).below hb2)
  have N2 := Lib.hid ((hb2.block w.heap.size (by omega)).trans hn1)
  have B2 := Lib.hid (hb1.trans (hb2.mono (by omega)))
  have S2 : w.heap.size + 1 ≤ w2.heap.size := by have := hb2.size; omega
  clear hx hw1 hb1 hn1 hs1 hb2
  obtain ⟨x0, x1, y0, y1⟩ := two_of I2.out.blk
  obtain ⟨e0, e1, e2, e3, e4, e5, e6⟩ := I2.out.at m H.out.2.2.1
  go_wp2_with fail
  have he := nodes_Node_empty.calls (nd l m).f0.f0 (nd l m).f0.f1 (nd l m).f0.f2 (nd l m).f1.f0 (nd l m).f1.f1 (nd l m).f1.f2 (nd l m).f2 _ w2 rfl
  refine he.mono ?_
  rintro e w3 ⟨rfl, hb3⟩
  rw [show ((nd l m).f0.f0 == 0) = true from beq_iff_eq.2 H.out.2.2.2]
  have I3 := Lib.hid (I2.out.below hb3)
  have N3 := Lib.hid ((hb3.block w.heap.size (by omega)).trans N2.out)
  have B3 := Lib.hid (B2.out.trans (hb3.mono (by omega)))
  clear x0 x1 y0 y1 e0 e1 e2 e3 e4 e5 e6 he hb3
  obtain ⟨x0, x1, y0, y1⟩ := two_of I3.out.blk
  obtain ⟨n0, n1, n2, n3, n4, n5, n6⟩ := seven_of N3.out
  have hmx : Try.prog.follows .mixedOrders = true := by kernel_rfl
  go_wp2_with fail
  go_still_tail 7, (by kernel_rfl)
  change wpList _ _ _ _ _ w3.drew
  refine I3.out.drew.store rfl rfl _ _ rfl m H.out.2.2.1 n rfl rfl ?_
  intro w4 hI4 hF4
  have Q := Lib.hid (And.intro hI4 ((Fr.of_below B3.out).trans ((Fr.of_below (Below.refl _ _).drew).trans hF4)))
  clear hI4 hF4
  go_wp2_with fail
  go_ret
  exact ⟨rfl, Q.out⟩

theorem IsP.setNext {B g a cap : Nat} {l : List S67} {f : Int} {w : World} (h : IsP B g a cap l f w) (i : Nat) (hi : i < l.length) (x : Int) : IsP B g a cap (l.set i ⟨(nd l i).f0, (nd l i).f1, x⟩) f (w.setCell ⟨a, i * 7 + 6, none⟩ (.int .i64 x)) := by
  obtain ⟨c0, c1, c2, c3, c4, c5, c6⟩ := h.at i hi
  have key := Kd.R_seg (d := k67) h.row (i : Int) (by omega) (by omega) (c := ncells (nd l i)) (seg := [.int .i64 x]) (j := 6) (x' := ⟨(nd l i).f0, (nd l i).f1, x⟩) (okp := fun _ => False) rfl ?_ (show 6 + 1 ≤ 7 by decide) (k67_mkM _ _ _ _) (fun _ hk => hk.elim)
  · obtain ⟨hR, hg⟩ := key
    rw [Int.toNat_natCast] at hR hg
    have hgl := (Array.getElem?_eq_some_iff.1 h.blk).1
    have hR' : Kd.R k67 67 (w.setCell ⟨a, i * 7 + 6, none⟩ (.int .i64 x)) B (fun k => k = a) (.slice (some ⟨a, 0, none⟩) l.length cap) (l.set i ⟨(nd l i).f0, (nd l i).f1, x⟩) := hR
    refine ⟨?_, ?_, h.ne, by rw [List.length_set]; exact h.len⟩
    · rw [List.length_set, Below.heap_setCell _ _ _ _ h.ne]
      exact h.blk
    · rw [List.length_set]
      exact hR'
  · intro j u hu
    rw [Int.toNat_natCast]
    match j, hu with
    | 0, hu => cases hu; exact c0
    | 1, hu => cases hu; exact c1
    | 2, hu => cases hu; exact c2
    | 3, hu => cases hu; exact c3
    | 4, hu => cases hu; exact c4
    | 5, hu => cases hu; exact c5
    | 6, hu => cases hu; exact c6
    | j + 7, hu => simp [ncells] at hu
theorem IsP.free {B g a cap : Nat} {l : List S67} {f : Int} {w : World} (h : IsP B g a cap l f w) (i : Nat) : w.frozen? ⟨a, i, none⟩ = false := by
  obtain ⟨_, inner, ho, _⟩ := h.row
  obtain ⟨cells, hc⟩ := own_typed ho a (by simp [Value.ownBlock])
  exact blk_frozen hc _

set_option maxHeartbeats 4000000 in
set_option maxRecDepth 100000 in
/-- No node is free below the free pointer. -/
theorem insert_b {B g a cap : Nat} {l : List S67} {f : Nat} {w : World} (h : IsP B g a cap l f w) (hf : f ≤ l.length) (n : S67) (m : Nat) (hm : hash_Main.f n.f0.f0 n.f0.f1 n.f0.f2 l.length = some ((m : Int), 0)) (hml : m < l.length) (he : ¬ (nd l m).f0.f0 = 0) (hr : (roomL l f).1 = -1) :
    Calls Try.prog 80 #[.pointer (some ⟨g, 0, none⟩), nv n] w fun e w' => e = .returned (.int .i64 12) ∧ IsP B g a cap l (roomL l f).2 w' ∧ Fr (fun k => k = g) w w' := by
  unfold nv
  have H := Lib.hid (And.intro h (And.intro hm (And.intro hml he)))
  have HF := Lib.hid (And.intro hf hr)
  have hlen := h.len
  have hmm : (m : Int) ≤ 65536 := by omega
  have p1 : 0 ≤ (m : Int) := by omega
  have p2 : (m : Int) < (l.length : Int) := by omega
  replace p1 := eq_true p1
  replace p2 := eq_true p2
  clear h hm hml he hf hr
  go_enter Try.func80, Try.ntmps80
  go_wp2_with fail
  obtain ⟨w1, hw1, hb1, hn1, hs1⟩ : ∃ w1, w.alloc (.cells #[.int .i64 n.f0.f0, .int .i64 n.f0.f1, .string n.f0.f2, .int .i64 n.f1.f0, .int .i64 n.f1.f1, .string n.f1.f2, .int .i64 n.f2] 67) = w1 ∧ Below w.heap.size w w1 ∧
      w1.heap[w.heap.size]? = some (.cells #[.int .i64 n.f0.f0, .int .i64 n.f0.f1, .string n.f0.f2, .int .i64 n.f1.f0, .int .i64 n.f1.f1, .string n.f1.f2, .int .i64 n.f2] 67 (0, 0)) ∧ w1.heap.size = w.heap.size + 1 :=
    ⟨_, rfl, (Below.refl _ _).alloc (Nat.le_refl _) _, heap_alloc_new _ _, by simp⟩
  rw [hw1]
  have hx := main_call (H.out.1.below hb1) n.f0 m 0 H.out.2.1 (by have := H.out.2.2.1; omega)
  unfold kv at hx
  refine hx.mono ?_
  rintro e w2 ⟨rfl, hb2⟩
  simp only [beq_self_eq_true]
  have I2 := Lib.hid ((H.out.1.below hb1).below hb2)
  have N2 := Lib.hid ((hb2.block w.heap.size (by omega)).trans hn1)
  have B2 := Lib.hid (hb1.trans (hb2.mono (by omega)))
  have S2 : w.heap.size + 1 ≤ w2.heap.size := by have := hb2.size; omega
  clear hx hw1 hb1 hn1 hs1 hb2
  obtain ⟨x0, x1, y0, y1⟩ := two_of I2.out.blk
  obtain ⟨e0, e1, e2, e3, e4, e5, e6⟩ := I2.out.at m H.out.2.2.1
  go_wp2_with fail
  have he := nodes_Node_empty.calls (nd l m).f0.f0 (nd l m).f0.f1 (nd l m).f0.f2 (nd l m).f1.f0 (nd l m).f1.f1 (nd l m).f1.f2 (nd l m).f2 _ w2 rfl
  refine he.mono ?_
  rintro e w3 ⟨rfl, hb3⟩
  rw [show ((nd l m).f0.f0 == 0) = false from beq_eq_false_iff_ne.2 H.out.2.2.2]
  have I3 := Lib.hid (I2.out.below hb3)
  have B3 := Lib.hid (B2.out.trans (hb3.mono (by omega)))
  clear x0 x1 y0 y1 e0 e1 e2 e3 e4 e5 e6 he hb3
  go_wp2_with fail
  refine (room_call I3.out HF.out.1).mono ?_
  rintro e w4 ⟨rfl, hI4, hF4⟩
  rw [HF.out.2]
  have Q := Lib.hid (And.intro hI4 ((Fr.of_below B3.out).trans hF4))
  clear hI4 hF4
  go_wp2_with fail
  go_ret
  exact ⟨rfl, Q.out⟩
end Go.Proofs.Ytlmmhlabacghnaa.PH
