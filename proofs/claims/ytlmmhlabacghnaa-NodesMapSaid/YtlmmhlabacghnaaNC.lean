/- nodes: insert, where the main position is taken. -/
import Derived.Test.YtlmmhlabacghnaaNI
namespace Go.Proofs.Ytlmmhlabacghnaa.PH
open Go.RowKit Go.Proofs.YtlmmhlabacghnaaW.PrintWords Go.Proofs.YtlmmhlabacghnaaW.PrintLast Go.Proofs.YtlmmhlabacghnaaW.PrintMore
set_option linter.unusedVariables false
set_option linter.unusedSimpArgs false

set_option maxHeartbeats 8000000 in
set_option maxRecDepth 100000 in
/-- The node at the main position is of the same chain. -/
theorem insert_c1 {B g a cap : Nat} {l : List S67} {f : Nat} {w : World} (h : IsP B g a cap l f w) (hB : B ≤ w.heap.size) (hf : f ≤ l.length) (n : S67) (m : Nat) (hm : hash_Main.f n.f0.f0 n.f0.f1 n.f0.f2 l.length = some ((m : Int), 0)) (hml : m < l.length) (he : ¬ (nd l m).f0.f0 = 0) (fi : Nat) (hr : roomL l f = ((fi : Int), fi)) (hfi : fi < l.length ∧ fi ≠ m) (o : Nat) (ho : hash_Main.f (nd l m).f0.f0 (nd l m).f0.f1 (nd l m).f0.f2 l.length = some ((o : Int), 0)) (hom : o = m)
    (hx2 : -65536 ≤ (nd l m).f2 ∧ (nd l m).f2 ≤ 65536) (L : List S67) (hL : (l.set fi ⟨n.f0, n.f1, if (nd l m).f2 = 0 then 0 else (m : Int) + (nd l m).f2 - fi⟩).set m ⟨(nd l m).f0, (nd l m).f1, (fi : Int) - m⟩ = L) :
    Calls Try.prog 80 #[.pointer (some ⟨g, 0, none⟩), nv n] w fun e w' => e = .returned (.int .i64 0) ∧ IsP B g a cap L fi w' ∧ Fr (fun k => k = g ∨ k = a) w w' := by
  unfold nv
  have H := Lib.hid (And.intro h (And.intro hm (And.intro hml he)))
  have HF := Lib.hid (And.intro hf (And.intro hr (And.intro hfi ho)))
  have HX := Lib.hid (And.intro hx2 (And.intro hB hom))
  have HL := Lib.hid hL
  have hlen := h.len
  have hmm : (m : Int) ≤ 65536 := by omega
  have hff : (fi : Int) ≤ 65536 := by omega
  have p1 : 0 ≤ (m : Int) := by omega
  have p2 : (m : Int) < (l.length : Int) := by omega
  replace p1 := eq_true p1
  replace p2 := eq_true p2
  clear h hm hml he hf hr hfi ho hx2 hB hom hL
  go_enter Try.func80, Try.ntmps80
  go_wp2_with fail
  obtain ⟨w1, hw1, hb1, hn1, hs1⟩ : ∃ w1, w.alloc (.cells #[.int .i64 n.f0.f0, .int .i64 n.f0.f1, .string n.f0.f2, .int .i64 n.f1.f0, .int .i64 n.f1.f1, .string n.f1.f2, .int .i64 n.f2] 67) = w1 ∧ Below w.heap.size w w1 ∧
      w1.heap[w.heap.size]? = some (.cells #[.int .i64 n.f0.f0, .int .i64 n.f0.f1, .string n.f0.f2, .int .i64 n.f1.f0, .int .i64 n.f1.f1, .string n.f1.f2, .int .i64 n.f2] 67 (0, 0)) ∧ w1.heap.size = w.heap.size + 1 :=
    ⟨_, rfl, (Below.refl _ _).alloc (Nat.le_refl _) _, heap_alloc_new _ _, by simp⟩
  rw [hw1]
  have hx := main_call (H.out.1.below hb1) n.f0 m 0 H.out.2.1 (by have := H.out.2.2.1; omega)
  unfold kv at hx
  refine hx.mono ?_
  rintro e w2 ⟨rfl, hb2⟩
  simp only [beq_self_eq_true]
  have I2 := Lib.hid ((H.out.1.below hb1).below hb2)
  have N2 := Lib.hid ((hb2.block w.heap.size (by omega)).trans hn1)
  have B2 := Lib.hid (hb1.trans (hb2.mono (by omega)))
  have S2 : w.heap.size + 1 ≤ w2.heap.size := by have := hb2.size; omega
  clear hx hw1 hb1 hn1 hs1 hb2
  obtain ⟨x0, x1, y0, y1⟩ := two_of I2.out.blk
  obtain ⟨e0, e1, e2, e3, e4, e5, e6⟩ := I2.out.at m H.out.2.2.1
  go_wp2_with fail
  have he := nodes_Node_empty.calls (nd l m).f0.f0 (nd l m).f0.f1 (nd l m).f0.f2 (nd l m).f1.f0 (nd l m).f1.f1 (nd l m).f1.f2 (nd l m).f2 _ w2 rfl
  refine he.mono ?_
  rintro e w3 ⟨rfl, hb3⟩
  rw [show ((nd l m).f0.f0 == 0) = false from beq_eq_false_iff_ne.2 H.out.2.2.2]
  have I3 := Lib.hid (I2.out.below hb3)
  have N3 := Lib.hid ((hb3.block w.heap.size (by omega)).trans N2.out)
  have B3 := Lib.hid (B2.out.trans (hb3.mono (by omega)))
  have S3 : w.heap.size + 1 ≤ w3.heap.size := by have := hb3.size; omega
  clear x0 x1 y0 y1 e0 e1 e2 e3 e4 e5 e6 he hb3
  go_wp2_with fail
  refine (room_call I3.out HF.out.1).mono ?_
  rintro e w4 ⟨rfl, hI4, hF4⟩
  rw [HF.out.2.1] at hI4 ⊢
  have hgl : g < w.heap.size := (Array.getElem?_eq_some_iff.1 H.out.1.blk).1
  have I4 := Lib.hid hI4
  have N4 := Lib.hid ((hF4.block w.heap.size (by omega) (by omega)).trans N3.out)
  have F4 := Lib.hid ((Fr.of_below B3.out).trans hF4)
  have S4 : w.heap.size + 1 ≤ w4.heap.size := by have := hF4.size; omega
  clear hI4 hF4
  have q0 : decide ((fi : Int) < 0) = false := decide_eq_false (by omega)
  obtain ⟨x0, x1, y0, y1⟩ := two_of I4.out.blk
  obtain ⟨e0, e1, e2, e3, e4, e5, e6⟩ := I4.out.at m H.out.2.2.1
  go_wp2_with fail
  obtain ⟨w5, hw5, hb5, ht5, hs5⟩ : ∃ w5, w4.alloc (.cells #[.int .i64 (nd l m).f0.f0, .int .i64 (nd l m).f0.f1, .string (nd l m).f0.f2, .int .i64 (nd l m).f1.f0, .int .i64 (nd l m).f1.f1, .string (nd l m).f1.f2, .int .i64 (nd l m).f2] 67) = w5 ∧ Below w4.heap.size w4 w5 ∧
      w5.heap[w4.heap.size]? = some (.cells #[.int .i64 (nd l m).f0.f0, .int .i64 (nd l m).f0.f1, .string (nd l m).f0.f2, .int .i64 (nd l m).f1.f0, .int .i64 (nd l m).f1.f1, .string (nd l m).f1.f2, .int .i64 (nd l m).f2] 67 (0, 0)) ∧ w5.heap.size = w4.heap.size + 1 :=
    ⟨_, rfl, (Below.refl _ _).alloc (Nat.le_refl _) _, heap_alloc_new _ _, by simp⟩
  rw [hw5]
  have hx := main_call (I4.out.below hb5) (nd l m).f0 o 0 HF.out.2.2.2 (by have := H.out.2.2.1; omega)
  unfold kv at hx
  refine hx.mono ?_
  rintro e w6 ⟨rfl, hb6⟩
  simp only [beq_self_eq_true]
  have I6 := Lib.hid ((I4.out.below hb5).below hb6)
  have N6 := Lib.hid ((hb6.block w.heap.size (by omega)).trans ((hb5.block w.heap.size (by omega)).trans N4.out))
  have T6 := Lib.hid ((hb6.block w4.heap.size (by omega)).trans ht5)
  have F6 := Lib.hid (F4.out.trans (Fr.of_below (hb5.trans (hb6.mono (by omega)))))
  clear x0 x1 y0 y1 e0 e1 e2 e3 e4 e5 e6 hx hw5 hb5 ht5 hs5 hb6
  obtain ⟨n0, n1, n2, n3, n4, n5, n6⟩ := seven_of N6.out
  obtain ⟨t0, t1, t2, t3, t4, t5, t6⟩ := seven_of T6.out
  have d1 : decide ((o : Int) = (m : Int)) = true := decide_eq_true (by have := HX.out.2.2; omega)
  have d2 : ((o : Int) == (m : Int)) = true := beq_iff_eq.2 (by have := HX.out.2.2; omega)
  go_wp2_with fail
  have hx := link_call I6.out (by have := F6.out.size; have := HX.out.2.1; omega) fi HF.out.2.2.1.1 n (nd l m) m (by omega) HX.out.1
  unfold nv at hx
  refine hx.mono ?_
  rintro e w7 ⟨rfl, hI7, hF7⟩
  have F7 := Lib.hid ((F6.out.imp (fun k hk => (.inl hk : k = g ∨ k = a))).trans (hF7.imp (fun k hk => .inr hk)))
  have hml7 : m < (l.set fi ⟨n.f0, n.f1, if (nd l m).f2 = 0 then 0 else (m : Int) + (nd l m).f2 - fi⟩).length := by rw [List.length_set]; exact H.out.2.2.1
  have hnd : nd (l.set fi ⟨n.f0, n.f1, if (nd l m).f2 = 0 then 0 else (m : Int) + (nd l m).f2 - fi⟩) m = nd l m := by
    unfold nd
    rw [List.getD_eq_getElem?_getD, List.getD_eq_getElem?_getD, List.getElem?_set_ne HF.out.2.2.1.2]
  have hz := hI7.free (m * 7 + 6)
  have hc6 := (hI7.at m hml7).2.2.2.2.2.2
  have hI8 := hI7.setNext m hml7 ((fi : Int) - m)
  rw [hnd] at hc6 hI8
  rw [HL.out] at hI8
  obtain ⟨x0, x1, y0, y1⟩ := two_of hI7.blk
  rw [List.length_set] at x0
  have Q := Lib.hid (And.intro hI8 (F7.out.trans (Fr.imp (fr_set w7 a (m * 7 + 6) (.int .i64 ((fi : Int) - m))) (fun k hk => .inr hk))))
  clear hx hI7 hF7 hnd hml7 hI8 n0 n1 n2 n3 n4 n5 n6 t0 t1 t2 t3 t4 t5 t6
  go_wp2_with fail
  go_ret
  exact ⟨rfl, Q.out⟩
end Go.Proofs.Ytlmmhlabacghnaa.PH
