/- nodes: insert, where the main position is taken by another chain. -/
import Derived.Test.YtlmmhlabacghnaaNC
import Derived.Deep.LoopGhost
namespace Go.Proofs.Ytlmmhlabacghnaa.PH
open Go.RowKit Go.Proofs.YtlmmhlabacghnaaW.PrintWords Go.Proofs.YtlmmhlabacghnaaW.PrintLast Go.Proofs.YtlmmhlabacghnaaW.PrintMore
set_option linter.unusedVariables false
set_option linter.unusedSimpArgs false

/-- Along the links from a node on: the node whose link leads to node m. -/
def aheadL (l : List S67) (m : Nat) : Nat → Nat → Option Nat
  | 0, _ => none
  | f + 1, i => if i < l.length ∧ -65536 ≤ (nd l i).f2 ∧ (nd l i).f2 ≤ 65536 then (if (i : Int) + (nd l i).f2 = m then some i else if 0 ≤ (i : Int) + (nd l i).f2 then aheadL l m f ((i : Int) + (nd l i).f2).toNat else none) else none

theorem IsP.alt {B g a cap : Nat} {l : List S67} {f : Int} {w : World} (h : IsP B g a cap l f w) : a < w.heap.size := by
  obtain ⟨_, inner, ho, _⟩ := h.row
  obtain ⟨cells, hc⟩ := own_typed ho a (by simp [Value.ownBlock])
  exact (Array.getElem?_eq_some_iff.1 hc).1
set_option maxHeartbeats 8000000 in
set_option maxRecDepth 100000 in
/-- The node at the main position is of another chain. -/
theorem insert_c2 {B g a cap : Nat} {l : List S67} {f : Nat} {w : World} (h : IsP B g a cap l f w) (hB : B ≤ w.heap.size) (hf : f ≤ l.length) (n : S67) (m : Nat) (hm : hash_Main.f n.f0.f0 n.f0.f1 n.f0.f2 l.length = some ((m : Int), 0)) (hml : m < l.length) (he : ¬ (nd l m).f0.f0 = 0) (fi : Nat) (hr : roomL l f = ((fi : Int), fi)) (hfi : fi < l.length ∧ fi ≠ m) (o : Nat) (ho : hash_Main.f (nd l m).f0.f0 (nd l m).f0.f1 (nd l m).f0.f2 l.length = some ((o : Int), 0)) (hom : o ≠ m)
    (hx2 : -65536 ≤ (nd l m).f2 ∧ (nd l m).f2 ≤ 65536) (k q : Nat) (hq : aheadL l m k o = some q) (L : List S67) (hL : ((l.set q ⟨(nd l q).f0, (nd l q).f1, (fi : Int) - q⟩).set fi ⟨(nd l m).f0, (nd l m).f1, if (nd l m).f2 = 0 then 0 else (m : Int) + (nd l m).f2 - fi⟩).set m n = L) :
    Calls Try.prog 80 #[.pointer (some ⟨g, 0, none⟩), nv n] w fun e w' => e = .returned (.int .i64 0) ∧ IsP B g a cap L fi w' ∧ Fr (fun k => k = g ∨ k = a) w w' := by
  unfold nv
  have H := Lib.hid (And.intro h (And.intro hm (And.intro hml he)))
  have HF := Lib.hid (And.intro hf (And.intro hr (And.intro hfi ho)))
  have HX := Lib.hid (And.intro hx2 (And.intro hB hom))
  have HL := Lib.hid hL
  have HQ := Lib.hid hq
  have hlen := h.len
  have hmm : (m : Int) ≤ 65536 := by omega
  have hff : (fi : Int) ≤ 65536 := by omega
  have p1 : 0 ≤ (m : Int) := by omega
  have p2 : (m : Int) < (l.length : Int) := by omega
  replace p1 := eq_true p1
  replace p2 := eq_true p2
  clear h hm hml he hf hr hfi ho hx2 hB hom hL hq
  go_enter Try.func80, Try.ntmps80
  go_wp2_with fail
  obtain ⟨w1, hw1, hb1, hn1, hs1⟩ : ∃ w1, w.alloc (.cells #[.int .i64 n.f0.f0, .int .i64 n.f0.f1, .string n.f0.f2, .int .i64 n.f1.f0, .int .i64 n.f1.f1, .string n.f1.f2, .int .i64 n.f2] 67) = w1 ∧ Below w.heap.size w w1 ∧
      w1.heap[w.heap.size]? = some (.cells #[.int .i64 n.f0.f0, .int .i64 n.f0.f1, .string n.f0.f2, .int .i64 n.f1.f0, .int .i64 n.f1.f1, .string n.f1.f2, .int .i64 n.f2] 67 (0, 0)) ∧ w1.heap.size = w.heap.size + 1 :=
    ⟨_, rfl, (Below.refl _ _).alloc (Nat.le_refl _) _, heap_alloc_new _ _, by simp⟩
  rw [hw1]
  have hx := main_call (H.out.1.below hb1) n.f0 m 0 H.out.2.1 (by have := H.out.2.2.1; omega)
  unfold kv at hx
  refine hx.mono ?_
  rintro e w2 ⟨rfl, hb2⟩
  simp only [beq_self_eq_true]
  have I2 := Lib.hid ((H.out.1.below hb1).below hb2)
  have N2 := Lib.hid ((hb2.block w.heap.size (by omega)).trans hn1)
  have B2 := Lib.hid (hb1.trans (hb2.mono (by omega)))
  have S2 : w.heap.size + 1 ≤ w2.heap.size := by have := hb2.size; omega
  clear hx hw1 hb1 hn1 hs1 hb2
  obtain ⟨x0, x1, y0, y1⟩ := two_of I2.out.blk
  obtain ⟨e0, e1, e2, e3, e4, e5, e6⟩ := I2.out.at m H.out.2.2.1
  go_wp2_with fail
  have he := nodes_Node_empty.calls (nd l m).f0.f0 (nd l m).f0.f1 (nd l m).f0.f2 (nd l m).f1.f0 (nd l m).f1.f1 (nd l m).f1.f2 (nd l m).f2 _ w2 rfl
  refine he.mono ?_
  rintro e w3 ⟨rfl, hb3⟩
  rw [show ((nd l m).f0.f0 == 0) = false from beq_eq_false_iff_ne.2 H.out.2.2.2]
  have I3 := Lib.hid (I2.out.below hb3)
  have N3 := Lib.hid ((hb3.block w.heap.size (by omega)).trans N2.out)
  have B3 := Lib.hid (B2.out.trans (hb3.mono (by omega)))
  have S3 : w.heap.size + 1 ≤ w3.heap.size := by have := hb3.size; omega
  clear x0 x1 y0 y1 e0 e1 e2 e3 e4 e5 e6 he hb3
  go_wp2_with fail
  refine (room_call I3.out HF.out.1).mono ?_
  rintro e w4 ⟨rfl, hI4, hF4⟩
  rw [HF.out.2.1] at hI4 ⊢
  have hgl : g < w.heap.size := (Array.getElem?_eq_some_iff.1 H.out.1.blk).1
  have I4 := Lib.hid hI4
  have N4 := Lib.hid ((hF4.block w.heap.size (by omega) (by omega)).trans N3.out)
  have F4 := Lib.hid ((Fr.of_below B3.out).trans hF4)
  have S4 : w.heap.size + 1 ≤ w4.heap.size := by have := hF4.size; omega
  clear hI4 hF4
  have q0 : decide ((fi : Int) < 0) = false := decide_eq_false (by omega)
  obtain ⟨x0, x1, y0, y1⟩ := two_of I4.out.blk
  obtain ⟨e0, e1, e2, e3, e4, e5, e6⟩ := I4.out.at m H.out.2.2.1
  go_wp2_with fail
  obtain ⟨w5, hw5, hb5, ht5, hs5⟩ : ∃ w5, w4.alloc (.cells #[.int .i64 (nd l m).f0.f0, .int .i64 (nd l m).f0.f1, .string (nd l m).f0.f2, .int .i64 (nd l m).f1.f0, .int .i64 (nd l m).f1.f1, .string (nd l m).f1.f2, .int .i64 (nd l m).f2] 67) = w5 ∧ Below w4.heap.size w4 w5 ∧
      w5.heap[w4.heap.size]? = some (.cells #[.int .i64 (nd l m).f0.f0, .int .i64 (nd l m).f0.f1, .string (nd l m).f0.f2, .int .i64 (nd l m).f1.f0, .int .i64 (nd l m).f1.f1, .string (nd l m).f1.f2, .int .i64 (nd l m).f2] 67 (0, 0)) ∧ w5.heap.size = w4.heap.size + 1 :=
    ⟨_, rfl, (Below.refl _ _).alloc (Nat.le_refl _) _, heap_alloc_new _ _, by simp⟩
  rw [hw5]
  have hx := main_call (I4.out.below hb5) (nd l m).f0 o 0 HF.out.2.2.2 (by have := H.out.2.2.1; omega)
  unfold kv at hx
  refine hx.mono ?_
  rintro e w6 ⟨rfl, hb6⟩
  simp only [beq_self_eq_true]
  have I6 := Lib.hid ((I4.out.below hb5).below hb6)
  have N6 := Lib.hid ((hb6.block w.heap.size (by omega)).trans ((hb5.block w.heap.size (by omega)).trans N4.out))
  have T6 := Lib.hid ((hb6.block w4.heap.size (by omega)).trans ht5)
  have F6 := Lib.hid (F4.out.trans (Fr.of_below (hb5.trans (hb6.mono (by omega)))))
  clear x0 x1 y0 y1 e0 e1 e2 e3 e4 e5 e6 hx hw5 hb5 ht5 hs5 hb6
  have d1 : decide ((o : Int) = (m : Int)) = false := decide_eq_false (by have := HX.out.2.2; omega)
  have d2 : ((o : Int) == (m : Int)) = false := beq_eq_false_iff_ne.2 (by have := HX.out.2.2; omega)
  have S6 : w4.heap.size + 1 ≤ w6.heap.size := by have := (Array.getElem?_eq_some_iff.1 T6.out).1; omega
  go_wp2_with fail
  go_loopg [9] k (fun kq v9 wr => ∃ i : Nat, v9 = .int .i64 i ∧ RowKit.Hid (aheadL l m kq i = some q) ∧ wr = w6)
  case atStart => exact ⟨o, rfl, HQ, rfl⟩
  case round =>
    obtain ⟨i, rfl, ha, rfl⟩ := hrel
    cases gk with
    | zero => exact absurd ha.out (by simp [aheadL])
    | succ k1 =>
      have ha2 := ha.out
      simp only [aheadL] at ha2
      split at ha2
      case isFalse => cases ha2
      case isTrue hb =>
      obtain ⟨hi, hl1, hl2⟩ := hb
      obtain ⟨x0, x1, y0, y1⟩ := two_of I6.out.blk
      obtain ⟨e0, e1, e2, e3, e4, e5, e6⟩ := I6.out.at i hi
      have hii : (i : Int) ≤ 65536 := by omega
      have p3 : 0 ≤ (i : Int) := by omega
      have p4 : (i : Int) < (l.length : Int) := by omega
      replace p3 := eq_true p3
      replace p4 := eq_true p4
      have q9 : IntKind.i64.wrap ((i : Int) + (nd l i).f2) = (i : Int) + (nd l i).f2 := IntWalk.i64_in _ (by omega)
      have HA := Lib.hid ha2
      have HI := Lib.hid hi
      clear ha2 ha HQ hi
      by_cases hz : (i : Int) + (nd l i).f2 = m
      · have HZ := HA.out
        rw [if_pos hz] at HZ
        have hqi : q = i := (Option.some.inj HZ).symm
        subst hqi
        have b1 : ((q : Int) + (nd l q).f2 != m) = false := by rw [hz]; exact bne_self_eq_false _
        have HAQ := Lib.hid hz
        have hzf := I6.out.free (q * 7 + 6)
        have hI7 := I6.out.setNext q HI.out ((fi : Int) - q)
        have hF7 : Fr (fun k => k = g ∨ k = a) w (wr.setCell ⟨a, q * 7 + 6, none⟩ (.int .i64 ((fi : Int) - q))) := (F6.out.imp (fun k hk => (.inl hk : k = g ∨ k = a))).trans (Fr.imp (fr_set wr a (q * 7 + 6) _) (fun k hk => .inr hk))
        have I7 := Lib.hid hI7
        have F7 := Lib.hid hF7
        have hal : a < w.heap.size := H.out.1.alt
        have N7 := Lib.hid ((Below.heap_setCell wr ⟨a, q * 7 + 6, none⟩ (.int .i64 ((fi : Int) - q)) w.heap.size (by show w.heap.size ≠ a; omega)).trans N6.out)
        have T7 := Lib.hid ((Below.heap_setCell wr ⟨a, q * 7 + 6, none⟩ (.int .i64 ((fi : Int) - q)) w4.heap.size (by show w4.heap.size ≠ a; omega)).trans T6.out)
        obtain ⟨t0, t1, t2, t3, t4, t5, t6⟩ := seven_of T6.out
        clear hz HA HZ hI7 hF7
        go_wp2_with fail
        have hx := link_call I7.out (by have := F7.out.size; have := HX.out.2.1; omega) fi (by rw [List.length_set]; exact HF.out.2.2.1.1) (nd l m) (nd l m) m (by omega) HX.out.1
        unfold nv at hx
        refine hx.mono ?_
        rintro e w8 ⟨rfl, hI8, hF8⟩
        have I8 := Lib.hid hI8
        have F8 := Lib.hid (F7.out.trans (hF8.imp (fun k hk => .inr hk)))
        have N8 := Lib.hid ((hF8.block w.heap.size (Array.getElem?_eq_some_iff.1 N7.out).1 (by omega)).trans N7.out)
        clear hx hI8 hF8 t0 t1 t2 t3 t4 t5 t6 x0 x1 y0 y1 e0 e1 e2 e3 e4 e5 e6
        obtain ⟨x0, x1, y0, y1⟩ := two_of I8.out.blk
        rw [List.length_set, List.length_set] at x0
        obtain ⟨n0, n1, n2, n3, n4, n5, n6⟩ := seven_of N8.out
        have hmx : Try.prog.follows .mixedOrders = true := by kernel_rfl
        go_wp2_with fail
        go_still_tail 7, (by kernel_rfl)
        change wpList _ _ _ _ _ w8.drew
        refine I8.out.drew.store rfl rfl _ _ rfl m (by rw [List.length_set, List.length_set]; exact H.out.2.2.1) n rfl rfl ?_
        intro w9 hI9 hF9
        rw [HL.out] at hI9
        have Q := Lib.hid (And.intro hI9 (F8.out.trans ((Fr.of_below (Below.refl _ _).drew).trans (hF9.imp (fun k hk => .inr hk)))))
        clear hI9 hF9
        go_wp2_with fail
        go_ret
        exact ⟨rfl, Q.out⟩
      · have HZ := HA.out
        rw [if_neg hz] at HZ
        have b1 : ((i : Int) + (nd l i).f2 != m) = true := bne_iff_ne.2 hz
        split at HZ
        case isFalse => cases HZ
        case isTrue hb =>
        have R := Lib.hid (And.intro HZ hb)
        clear hz HZ hb HA
        go_wp2_with fail
        go_roundg k1
        case measure => omega
        case rel => exact ⟨((i : Int) + (nd l i).f2).toNat, congrArg (Value.int .i64) (by have := R.out.2; omega), Lib.hid R.out.1, rfl⟩
end Go.Proofs.Ytlmmhlabacghnaa.PH
