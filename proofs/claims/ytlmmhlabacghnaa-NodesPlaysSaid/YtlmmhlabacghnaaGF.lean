import Derived.Test.YtlmmhlabacghnaaM7
import Derived.Deep.CutBlock
import Derived.Deep.RegionHeld3
import Derived.BigRegion
/- nodes: the reference's Put, where the main position is free. -/
namespace Go.Proofs.Ytlmmhlabacghnaa.PH
open Go.RowKit Go.Proofs.YtlmmhlabacghnaaW.PrintWords Go.Proofs.YtlmmhlabacghnaaW.PrintLast Go.Proofs.YtlmmhlabacghnaaW.PrintMore
open Go.Proofs.Ytlmmhlabacghnaa.HM
set_option linter.unusedVariables false
set_option linter.unusedSimpArgs false

theorem rowI1 {B : Nat} (w : World) (hB : B ≤ w.heap.size) (a : Int) : Kd.R (Kd.int .i64) 3 (w.alloc (.cells #[.int .i64 a] 3)) B (fun k => w.heap.size ≤ k) (.slice (some ⟨w.heap.size, 0, none⟩) 1 1) [a] := by
  have h := World.ownsRow_lit (base := B) (e := 3) (size := 1) w #[.int .i64 a] 1 hB (by simp [maxLen]) rfl
  exact Kd.R_of_own h (fun k hk => by
    have : w.heap.size = k := by simpa [Value.ownBlock] using hk
    omega)
theorem rowI2 {B : Nat} (w : World) (hB : B ≤ w.heap.size) (a b : Int) : Kd.R (Kd.int .i64) 3 (w.alloc (.cells #[.int .i64 a, .int .i64 b] 3)) B (fun k => w.heap.size ≤ k) (.slice (some ⟨w.heap.size, 0, none⟩) 2 2) [a, b] := by
  have h := World.ownsRow_lit (base := B) (e := 3) (size := 1) w #[.int .i64 a, .int .i64 b] 2 hB (by simp [maxLen]) rfl
  exact Kd.R_of_own h (fun k hk => by
    have : w.heap.size = k := by simpa [Value.ownBlock] using hk
    omega)
theorem csOf_set (N : Nat) (C : Nat → List Nat) (m : Nat) (X : List Nat) (hm : m < N) : (csOf N C).set m (X.map (fun x : Nat => (x : Int))) = csOf N (fun j => if j = m then X else C j) := by
  apply List.ext_getElem?
  intro i
  rw [List.getElem?_set]
  unfold csOf
  by_cases h : m = i
  · subst h
    rw [if_pos rfl, List.length_map, List.length_range, if_pos hm, List.getElem?_map, List.getElem?_range hm]
    simp
  · rw [if_neg h, List.getElem?_map, List.getElem?_map]
    by_cases hi : i < N
    · rw [List.getElem?_range hi]
      simp [Ne.symm h]
    · rw [List.getElem?_eq_none (by simp; omega)]
      rfl
theorem far3 {w : World} {c o : Nat} {v : Value} {b i j m : Nat} {x y z : Value} (hp : c ≠ b) (h : w.cell? ⟨c, o, none⟩ = some v) : (((w.setCell ⟨b, i, none⟩ x).setCell ⟨b, j, none⟩ y).setCell ⟨b, m, none⟩ z).cell? ⟨c, o, none⟩ = some v := by
  rw [← h]
  unfold World.cell?
  simp only
  rw [Below.heap_setCell _ _ _ _ hp, Below.heap_setCell _ _ _ _ hp, Below.heap_setCell _ _ _ _ hp]
theorem far3d {w : World} {c o : Nat} {v : Value} {b i j m : Nat} {x y z : Value} (hp : c ≠ b) (h : w.cell? ⟨c, o, none⟩ = some v) : ((((w.setCell ⟨b, i, none⟩ x).setCell ⟨b, j, none⟩ y).setCell ⟨b, m, none⟩ z).drew).cell? ⟨c, o, none⟩ = some v := far3 hp h
set_option maxHeartbeats 8000000 in
set_option maxRecDepth 100000 in
theorem rput_a {B q bk bv bc ck cv cc : Nat} {l : List Nd} {f : Nat} {C : Nat → List Nat} {w : World} (h : IsR B q bk bv bc ck cv cc l f C w) (hB : B ≤ w.heap.size) (hI : InvC l f C) (k v : Ky) (hk : okB k.f0 k.f1 k.f2 = true) (hv : okB v.f0 v.f1 v.f2 = true) (hk0 : ¬ k.f0 = 0) (at_ r : Int) (hf : fndR l k = (at_, r)) (ha : at_ = -1) (hv0 : ¬ v.f0 = 0) (hV : Inv l f C) (m : Nat) (hm : hp l.length k = m) (hz : (nd l m).f0.f0 = 0) :
    Calls Try.prog 55 #[.pointer (some ⟨q, 0, none⟩), kv k, kv v] w fun x w' => x = .returned (.tuple #[.int .i64 r, .int .i64 0]) ∧ IsR B q bk bv bc ck cv cc (l.set m ⟨k, v, 0⟩) f (fun j => if j = m then [m] else C j) w' ∧ Below B w w' := by
  unfold kv
  have H := Lib.hid (And.intro h (And.intro hB (And.intro hI hf)))
  have HK := Lib.hid (And.intro hk hv)
  have hk1 : (k.f0 == 0) = false := beq_eq_false_iff_ne.2 hk0
  have hlen := h.len
  have hlt := h.toL.lt
  clear h hB hI hf hk hv hk0
  subst ha
  have hml : m < l.length := hm ▸ hp_lt hV.pow k
  have hsm := hV.small
  have HV := Lib.hid (And.intro hv0 (And.intro hV (And.intro hm hml)))
  have hm5 : (m : Int) ≤ 65536 := by omega
  have p1 : 0 ≤ (m : Int) := by omega
  have p2 : (m : Int) < (l.length : Int) := by omega
  replace p1 := eq_true p1
  replace p2 := eq_true p2
  have d0 : decide ((l.length : Int) = 0) = false := decide_eq_false (by omega)
  have d1 : ((l.length : Int) == 0) = false := beq_eq_false_iff_ne.2 (by omega)
  clear hv0 hV hm hml
  have HZ := Lib.hid hz
  clear hz
  go_enter Try.func55, Try.ntmps55
  go_wp2_with fail
  obtain ⟨w2, hw2, hb2, hk2, hv2, hs2⟩ : ∃ w2, (w.alloc (.cells #[.int .i64 k.f0, .int .i64 k.f1, .string k.f2] 30)).alloc (.cells #[.int .i64 v.f0, .int .i64 v.f1, .string v.f2] 30) = w2 ∧ Below w.heap.size w w2 ∧
      w2.heap[w.heap.size]? = some (.cells #[.int .i64 k.f0, .int .i64 k.f1, .string k.f2] 30 (0, 0)) ∧ w2.heap[w.heap.size + 1]? = some (.cells #[.int .i64 v.f0, .int .i64 v.f1, .string v.f2] 30 (0, 0)) ∧ w2.heap.size = w.heap.size + 2 :=
    ⟨_, rfl, ((Below.refl _ _).alloc (Nat.le_refl _) _).alloc (by simp) _, (Below.heap_alloc _ _ _ (by simp)).trans (heap_alloc_new _ _), by have := heap_alloc_new (w.alloc (.cells #[.int .i64 k.f0, .int .i64 k.f1, .string k.f2] 30)) (.cells #[.int .i64 v.f0, .int .i64 v.f1, .string v.f2] 30); simpa using this, by simp⟩
  rw [hw2]
  refine (trestleref03_Check.calls k.f0 k.f1 k.f2 0 w2 (by unfold trestleref03_Check.f okN; rw [if_pos HK.out.1])).mono ?_
  rintro r1 w3 ⟨rfl, hb3⟩
  have K3 := Lib.hid ((hb3.block w.heap.size (by omega)).trans hk2)
  have V3 := Lib.hid ((hb3.block (w.heap.size + 1) (by omega)).trans hv2)
  have B3 := Lib.hid (hb2.trans (hb3.mono (by omega)))
  have S3 : w.heap.size + 2 ≤ w3.heap.size := by have := hb3.size; omega
  clear hw2 hb2 hk2 hv2 hs2 hb3
  obtain ⟨v0, v1, v2⟩ := three_of V3.out
  go_wp2_with fail
  refine (trestleref03_Check.calls v.f0 v.f1 v.f2 0 w3 (by unfold trestleref03_Check.f okN; rw [if_pos HK.out.2])).mono ?_
  rintro r1 w4 ⟨rfl, hb4⟩
  have K4 := Lib.hid ((hb4.block w.heap.size (by omega)).trans K3.out)
  have V4 := Lib.hid ((hb4.block (w.heap.size + 1) (by omega)).trans V3.out)
  have B4 := Lib.hid (B3.out.trans (hb4.mono (by omega)))
  have S4 : w.heap.size + 2 ≤ w4.heap.size := by have := hb4.size; omega
  clear v0 v1 v2 hb4
  obtain ⟨k0, k1, k2⟩ := three_of K4.out
  go_wp2_with fail
  have hx := rfind_call (H.out.1.below B4.out) H.out.2.2.1 k _ _ H.out.2.2.2
  unfold kv at hx
  refine hx.mono ?_
  rintro r1 w5 ⟨rfl, hb5⟩
  have K5 := Lib.hid ((hb5.block w.heap.size (by omega)).trans K4.out)
  have V5 := Lib.hid ((hb5.block (w.heap.size + 1) (by omega)).trans V4.out)
  have B5 := Lib.hid (B4.out.trans (hb5.mono (by omega)))
  have S5 : w.heap.size + 2 ≤ w5.heap.size := by have := hb5.size; omega
  have R5 := Lib.hid (H.out.1.below B5.out)
  clear k0 k1 k2 hb5 hx
  obtain ⟨k0, k1, k2⟩ := three_of K5.out
  obtain ⟨v0, v1, v2⟩ := three_of V5.out
  have hmx : Try.prog.follows .mixedOrders = true := by kernel_rfl
  have hvb : (v.f0 == 0) = false := beq_eq_false_iff_ne.2 HV.out.1
  obtain ⟨x0, x1, x2, x3, _⟩ := four_of R5.out.blk
  have hx := place_call k l.length HV.out.2.1.pow ⟨HK.out.1, beq_eq_false_iff_ne.1 hk1⟩ w5.drew
  unfold kv at hx
  rw [HV.out.2.2.1] at hx
  go_wp2_with fail
  go_still_tail 6, (by kernel_rfl)
  change wpList _ _ _ _ _ w5.drew
  go_wp2_with fail
  refine hx.mono ?_
  rintro r1 w6 ⟨rfl, hb6⟩
  have hb56 := (Below.refl w5.heap.size w5).drew.trans hb6
  have B6 := Lib.hid (B5.out.trans (hb56.mono B5.out.size))
  have R6 := Lib.hid (R5.out.below hb56)
  have K6 := Lib.hid ((hb56.block w.heap.size (by omega)).trans K5.out)
  have V6 := Lib.hid ((hb56.block (w.heap.size + 1) (by omega)).trans V5.out)
  have S6 : w.heap.size + 2 ≤ w6.heap.size := by have := hb56.size; omega
  clear hx hb6 hb56 x0 x1 x2 x3 k0 k1 k2 v0 v1 v2 R5 K5 V5 B5 B4 B3 K4 K3 V4 V3
  obtain ⟨x0, x1, x2, x3, x4⟩ := four_of R6.out.blk
  obtain ⟨e0, e1, e2⟩ := R6.out.key m HV.out.2.2.2
  rw [HZ.out] at e0
  have hq1 : q < w.heap.size := hlt.1
  have ne1 := R6.out.n1
  have ne2 := R6.out.n2
  have ne3 := R6.out.n3
  have ne4 : w.heap.size ≠ bk := by omega
  have ne5 : w.heap.size ≠ bv := by omega
  have ne6 : w.heap.size + 1 ≠ bk := by omega
  have ne7 : w.heap.size + 1 ≠ bv := by omega
  have f0_ := R6.out.toL.kfree (m * 3)
  have f1_ := R6.out.toL.kfree (m * 3 + 1)
  have f2_ := R6.out.toL.kfree (m * 3 + 2)
  have g0_ := R6.out.toL.vfree (m * 3)
  have g1_ := R6.out.toL.vfree (m * 3 + 1)
  have g2_ := R6.out.toL.vfree (m * 3 + 2)
  obtain ⟨y0, y1, y2⟩ := R6.out.val m HV.out.2.2.2
  obtain ⟨k0, k1, k2⟩ := three_of K6.out
  obtain ⟨v0, v1, v2⟩ := three_of V6.out
  go_wp2_with fail
  go_upto_region 15 with (fail)
  go_cut [] (fun wx => RowKit.Hid (IsRL B q bk bv bc ck cv cc l.length ((ksOf l).set m k) ((vsOf l).set m v) (csOf l.length C) f wx ∧ Below B w wx))
  case first =>
    go_region_held3 (fun w' => w'.cell? ⟨q, 0, none⟩ = some (.slice (some ⟨bk, 0, none⟩) l.length ck) ∧ w'.cell? ⟨q, 1, none⟩ = some (.slice (some ⟨bv, 0, none⟩) l.length cv) ∧ w'.cell? ⟨w.heap.size, 0, none⟩ = some (.int .i64 k.f0) ∧ w'.cell? ⟨w.heap.size, 1, none⟩ = some (.int .i64 k.f1) ∧ w'.cell? ⟨w.heap.size, 2, none⟩ = some (.string k.f2) ∧
      w'.cell? ⟨w.heap.size + 1, 0, none⟩ = some (.int .i64 v.f0) ∧ w'.cell? ⟨w.heap.size + 1, 1, none⟩ = some (.int .i64 v.f1) ∧ w'.cell? ⟨w.heap.size + 1, 2, none⟩ = some (.string v.f2))
      (first | with_reducible exact ⟨far3d ne1 x0, far3d ne1 x1, far3d ne4 k0, far3d ne4 k1, far3d ne4 k2, far3d ne6 v0, far3d ne6 v1, far3d ne6 v2⟩ | with_reducible exact ⟨far3d ne2 x0, far3d ne2 x1, far3d ne5 k0, far3d ne5 k1, far3d ne5 k2, far3d ne7 v0, far3d ne7 v1, far3d ne7 v2⟩ | with_reducible exact ⟨far3d ne2 (far3 ne1 x0), far3d ne2 (far3 ne1 x1), far3d ne5 (far3 ne4 k0), far3d ne5 (far3 ne4 k1), far3d ne5 (far3 ne4 k2), far3d ne7 (far3 ne6 v0), far3d ne7 (far3 ne6 v1), far3d ne7 (far3 ne6 v2)⟩ | with_reducible exact ⟨far3d ne1 (far3 ne2 x0), far3d ne1 (far3 ne2 x1), far3d ne4 (far3 ne5 k0), far3d ne4 (far3 ne5 k1), far3d ne4 (far3 ne5 k2), far3d ne6 (far3 ne7 v0), far3d ne6 (far3 ne7 v1), far3d ne6 (far3 ne7 v2)⟩ | go_keep)
      (fail)
    all_goals
      go_wp2_with fail
      go_meet
      case rel =>
        have hge := R6.out.toL.ge
        have hBw := B6.out.mono H.out.2.1
        have hL := R6.out.toL
        first
          | exact Lib.hid ⟨((hL.setK m HV.out.2.2.2 k).setV m HV.out.2.2.2 v).below (Below.refl _ _).drew, (below3 (below3 hBw hge.2.1 _ _ _) hge.2.2.1 _ _ _).drew⟩
          | exact Lib.hid ⟨((hL.setV m HV.out.2.2.2 v).setK m HV.out.2.2.2 k).below (Below.refl _ _).drew, (below3 (below3 hBw hge.2.2.1 _ _ _) hge.2.1 _ _ _).drew⟩
  case rest =>
    have hIL := hcut.out.1
    have hBw := hcut.out.2
    have IL := Lib.hid hIL
    have BW := Lib.hid hBw
    have hbz : B ≤ wc.heap.size := by have := hIL.ge; have := hIL.lt; omega
    obtain ⟨x0, x1, x2, x3, _⟩ := four_of hIL.blk
    have x2a := alloc_cell x2 (.cells #[.int .i64 (m : Int)] 3)
    have HW := Lib.hid hbz
    clear hcut hIL hBw hbz R6 K6 V6 B6 y0 y1 y2 k0 k1 k2 v0 v1 v2 f0_ f1_ f2_ g0_ g1_ g2_ e0 e1 e2 x4
    go_wp2_with (refine IsRL.storeC IL.out ((Below.refl _ _).alloc (Nat.le_refl _) _) rfl rfl (.tmp 91) (.tmp 90) rfl m HV.out.2.2.2 _ [(m : Int)] (rowI1 wc HW.out (m : Int)) rfl rfl ?_)
    intro w7 h7 hb7 _
    have Q := Lib.hid (And.intro h7 ((BW.out.trans ((below_alloc (Below.refl wc.heap.size wc) _).mono HW.out)).trans hb7))
    clear h7 hb7
    go_wp2_with fail
    go_ret2
    refine ⟨rfl, Q.out.1.toR (by rw [List.length_set]) (by rw [ksOf_set]) (by rw [vsOf_set]) ?_ (by rw [List.length_set]; exact hlen), Q.out.2⟩
    rw [List.length_set]
    exact csOf_set l.length C m [m] HV.out.2.2.2
end Go.Proofs.Ytlmmhlabacghnaa.PH
/- nodes: the reference's Put: no room. -/
namespace Go.Proofs.Ytlmmhlabacghnaa.PH
open Go.RowKit Go.Proofs.YtlmmhlabacghnaaW.PrintWords Go.Proofs.YtlmmhlabacghnaaW.PrintLast Go.Proofs.YtlmmhlabacghnaaW.PrintMore
open Go.Proofs.Ytlmmhlabacghnaa.HM
set_option linter.unusedVariables false
set_option linter.unusedSimpArgs false

set_option maxHeartbeats 8000000 in
set_option maxRecDepth 100000 in
theorem rput_full {B q bk bv bc ck cv cc : Nat} {l : List Nd} {f : Nat} {C : Nat → List Nat} {w : World} (h : IsR B q bk bv bc ck cv cc l f C w) (hB : B ≤ w.heap.size) (hI : InvC l f C) (k v : Ky) (hk : okB k.f0 k.f1 k.f2 = true) (hv : okB v.f0 v.f1 v.f2 = true) (hk0 : ¬ k.f0 = 0) (at_ r : Int) (hf : fndR l k = (at_, r)) (ha : at_ = -1) (hv0 : ¬ v.f0 = 0) (hV : Inv l f C) (m : Nat) (hm : hp l.length k = m) (hz : ¬ (nd l m).f0.f0 = 0) (hr : roomL l f = (-1, 0)) :
    Calls Try.prog 55 #[.pointer (some ⟨q, 0, none⟩), kv k, kv v] w fun x w' => x = .returned (.tuple #[.int .i64 r, .int .i64 12]) ∧ IsR B q bk bv bc ck cv cc l (0 : Nat) C w' ∧ Below B w w' := by
  unfold kv
  have H := Lib.hid (And.intro h (And.intro hB (And.intro hI hf)))
  have HK := Lib.hid (And.intro hk hv)
  have hk1 : (k.f0 == 0) = false := beq_eq_false_iff_ne.2 hk0
  have hlen := h.len
  have hlt := h.toL.lt
  clear h hB hI hf hk hv hk0
  subst ha
  have hml : m < l.length := hm ▸ hp_lt hV.pow k
  have hsm := hV.small
  have HV := Lib.hid (And.intro hv0 (And.intro hV (And.intro hm hml)))
  have hm5 : (m : Int) ≤ 65536 := by omega
  have p1 : 0 ≤ (m : Int) := by omega
  have p2 : (m : Int) < (l.length : Int) := by omega
  replace p1 := eq_true p1
  replace p2 := eq_true p2
  have d0 : decide ((l.length : Int) = 0) = false := decide_eq_false (by omega)
  have d1 : ((l.length : Int) == 0) = false := beq_eq_false_iff_ne.2 (by omega)
  clear hv0 hV hm hml
  have HZ := Lib.hid hz
  have HRM := Lib.hid hr
  clear hz hr
  go_enter Try.func55, Try.ntmps55
  go_wp2_with fail
  obtain ⟨w2, hw2, hb2, hk2, hv2, hs2⟩ : ∃ w2, (w.alloc (.cells #[.int .i64 k.f0, .int .i64 k.f1, .string k.f2] 30)).alloc (.cells #[.int .i64 v.f0, .int .i64 v.f1, .string v.f2] 30) = w2 ∧ Below w.heap.size w w2 ∧
      w2.heap[w.heap.size]? = some (.cells #[.int .i64 k.f0, .int .i64 k.f1, .string k.f2] 30 (0, 0)) ∧ w2.heap[w.heap.size + 1]? = some (.cells #[.int .i64 v.f0, .int .i64 v.f1, .string v.f2] 30 (0, 0)) ∧ w2.heap.size = w.heap.size + 2 :=
    ⟨_, rfl, ((Below.refl _ _).alloc (Nat.le_refl _) _).alloc (by simp) _, (Below.heap_alloc _ _ _ (by simp)).trans (heap_alloc_new _ _), by have := heap_alloc_new (w.alloc (.cells #[.int .i64 k.f0, .int .i64 k.f1, .string k.f2] 30)) (.cells #[.int .i64 v.f0, .int .i64 v.f1, .string v.f2] 30); simpa using this, by simp⟩
  rw [hw2]
  refine (trestleref03_Check.calls k.f0 k.f1 k.f2 0 w2 (by unfold trestleref03_Check.f okN; rw [if_pos HK.out.1])).mono ?_
  rintro r1 w3 ⟨rfl, hb3⟩
  have K3 := Lib.hid ((hb3.block w.heap.size (by omega)).trans hk2)
  have V3 := Lib.hid ((hb3.block (w.heap.size + 1) (by omega)).trans hv2)
  have B3 := Lib.hid (hb2.trans (hb3.mono (by omega)))
  have S3 : w.heap.size + 2 ≤ w3.heap.size := by have := hb3.size; omega
  clear hw2 hb2 hk2 hv2 hs2 hb3
  obtain ⟨v0, v1, v2⟩ := three_of V3.out
  go_wp2_with fail
  refine (trestleref03_Check.calls v.f0 v.f1 v.f2 0 w3 (by unfold trestleref03_Check.f okN; rw [if_pos HK.out.2])).mono ?_
  rintro r1 w4 ⟨rfl, hb4⟩
  have K4 := Lib.hid ((hb4.block w.heap.size (by omega)).trans K3.out)
  have V4 := Lib.hid ((hb4.block (w.heap.size + 1) (by omega)).trans V3.out)
  have B4 := Lib.hid (B3.out.trans (hb4.mono (by omega)))
  have S4 : w.heap.size + 2 ≤ w4.heap.size := by have := hb4.size; omega
  clear v0 v1 v2 hb4
  obtain ⟨k0, k1, k2⟩ := three_of K4.out
  go_wp2_with fail
  have hx := rfind_call (H.out.1.below B4.out) H.out.2.2.1 k _ _ H.out.2.2.2
  unfold kv at hx
  refine hx.mono ?_
  rintro r1 w5 ⟨rfl, hb5⟩
  have K5 := Lib.hid ((hb5.block w.heap.size (by omega)).trans K4.out)
  have V5 := Lib.hid ((hb5.block (w.heap.size + 1) (by omega)).trans V4.out)
  have B5 := Lib.hid (B4.out.trans (hb5.mono (by omega)))
  have S5 : w.heap.size + 2 ≤ w5.heap.size := by have := hb5.size; omega
  have R5 := Lib.hid (H.out.1.below B5.out)
  clear k0 k1 k2 hb5 hx
  obtain ⟨k0, k1, k2⟩ := three_of K5.out
  obtain ⟨v0, v1, v2⟩ := three_of V5.out
  have hmx : Try.prog.follows .mixedOrders = true := by kernel_rfl
  have hvb : (v.f0 == 0) = false := beq_eq_false_iff_ne.2 HV.out.1
  obtain ⟨x0, x1, x2, x3, _⟩ := four_of R5.out.blk
  have hx := place_call k l.length HV.out.2.1.pow ⟨HK.out.1, beq_eq_false_iff_ne.1 hk1⟩ w5.drew
  unfold kv at hx
  rw [HV.out.2.2.1] at hx
  go_wp2_with fail
  go_still_tail 6, (by kernel_rfl)
  change wpList _ _ _ _ _ w5.drew
  go_wp2_with fail
  refine hx.mono ?_
  rintro r1 w6 ⟨rfl, hb6⟩
  have hb56 := (Below.refl w5.heap.size w5).drew.trans hb6
  have B6 := Lib.hid (B5.out.trans (hb56.mono B5.out.size))
  have R6 := Lib.hid (R5.out.below hb56)
  have K6 := Lib.hid ((hb56.block w.heap.size (by omega)).trans K5.out)
  have V6 := Lib.hid ((hb56.block (w.heap.size + 1) (by omega)).trans V5.out)
  have S6 : w.heap.size + 2 ≤ w6.heap.size := by have := hb56.size; omega
  clear hx hb6 hb56 x0 x1 x2 x3 k0 k1 k2 v0 v1 v2 R5 K5 V5 B5 B4 B3 K4 K3 V4 V3
  obtain ⟨x0, x1, x2, x3, x4⟩ := four_of R6.out.blk
  obtain ⟨e0, e1, e2⟩ := R6.out.key m HV.out.2.2.2
  have hz1 : ((nd l m).f0.f0 == 0) = false := beq_eq_false_iff_ne.2 HZ.out
  have hfl := H.out.2.2.1.fle
  have hff5 : (f : Int) ≤ 65536 := by omega
  go_upto_block 0 with (fail)
  go_cut [11] (fun v11 wx => v11 = .int .i64 (roomL l f).1 ∧ RowKit.Hid (IsR B q bk bv bc ck cv cc l (roomL l f).2 C wx) ∧ RowKit.Hid (Below B w wx) ∧ RowKit.Hid (wx.heap[w.heap.size]? = some (.cells #[.int .i64 k.f0, .int .i64 k.f1, .string k.f2] 30 (0, 0))) ∧ RowKit.Hid (wx.heap[w.heap.size + 1]? = some (.cells #[.int .i64 v.f0, .int .i64 v.f1, .string v.f2] 30 (0, 0))) ∧ w.heap.size + 2 ≤ wx.heap.size)
  case first =>
    have B6' := Lib.hid (B6.out.mono H.out.2.1)
    clear x0 x1 x2 x3 x4 e0 e1 e2
    go_wp2_with fail
    go_loopg [11] (f + 1) (fun kq v11 wx => ∃ (g : Nat) (x : Int), v11 = .int .i64 x ∧ g ≤ f ∧ RowKit.Hid ((x = -1 ∧ roomL l g = roomL l f ∧ kq = g + 1) ∨ (x = g ∧ roomL l f = ((g : Int), g) ∧ kq = 0)) ∧ RowKit.Hid (IsR B q bk bv bc ck cv cc l g C wx) ∧ RowKit.Hid (Below B w wx) ∧ RowKit.Hid (wx.heap[w.heap.size]? = some (.cells #[.int .i64 k.f0, .int .i64 k.f1, .string k.f2] 30 (0, 0))) ∧ RowKit.Hid (wx.heap[w.heap.size + 1]? = some (.cells #[.int .i64 v.f0, .int .i64 v.f1, .string v.f2] 30 (0, 0))) ∧ w.heap.size + 2 ≤ wx.heap.size)
    case atStart => exact ⟨f, -1, rfl, Nat.le_refl _, Lib.hid (.inl ⟨rfl, rfl, rfl⟩), R6, B6', K6, V6, S6⟩
    case round =>
      clear R6 B6' K6 V6 S6
      obtain ⟨g, x, rfl, hgf, hph, hR, hB6, hK, hV, hS⟩ := hrel
      obtain ⟨x0, x1, x2, x3, x4⟩ := four_of hR.out.blk
      rcases hph.out with ⟨rfl, hr, hkq⟩ | ⟨rfl, hr, hkq⟩
      · have HR := Lib.hid (And.intro hr hkq)
        have c1 : decide ((-1 : Int) < 0) = true := by decide
        clear hr hkq hph
        cases g with
        | zero =>
          go_wp2_with fail
          go_meet
          case rel => exact ⟨by rw [← HR.out.1]; rfl, Lib.hid (by rw [← HR.out.1]; exact hR.out), hB6, hK, hV, hS⟩
        | succ g' =>
          have c2 : decide (((g' + 1 : Nat) : Int) > 0) = true := decide_eq_true (by omega)
          have c3 : decide (0 < ((g' + 1 : Nat) : Int)) = true := decide_eq_true (by omega)
          have c4 : decide (0 < (g' : Int) + 1) = true := decide_eq_true (by omega)
          have hg5 : (g' : Int) ≤ 65536 := by omega
          have hgl : g' < l.length := by omega
          have HG := Lib.hid (And.intro hgl hgf)
          clear hgf hgl
          obtain ⟨w7, hw7⟩ : ∃ w7, wr.setCell ⟨q, 3, none⟩ (.int .i64 (g' : Int)) = w7 := ⟨_, rfl⟩
          have R7 : RowKit.Hid (IsR B q bk bv bc ck cv cc l (g' : Nat) C w7) := Lib.hid (by rw [← hw7]; exact (hR.out.toL.setF (g' : Int)).toR rfl rfl rfl rfl hlen)
          have B7 : RowKit.Hid (Below B w w7) := Lib.hid (by rw [← hw7]; exact hB6.out.setCell (p := ⟨q, 3, none⟩) hR.out.bq _)
          have K7 : RowKit.Hid (w7.heap[w.heap.size]? = some (.cells #[.int .i64 k.f0, .int .i64 k.f1, .string k.f2] 30 (0, 0))) := Lib.hid (by rw [← hw7, Below.heap_setCell _ _ _ _ (by show w.heap.size ≠ q; omega)]; exact hK.out)
          have V7 : RowKit.Hid (w7.heap[w.heap.size + 1]? = some (.cells #[.int .i64 v.f0, .int .i64 v.f1, .string v.f2] 30 (0, 0))) := Lib.hid (by rw [← hw7, Below.heap_setCell _ _ _ _ (by show w.heap.size + 1 ≠ q; omega)]; exact hV.out)
          have S7 : w.heap.size + 2 ≤ w7.heap.size := by rw [← hw7]; simp [World.setCell]; exact hS
          have HW7 := Lib.hid hw7
          have t1 : 0 ≤ (g' : Int) := by omega
          have t2 : (g' : Int) < (l.length : Int) := by have := HG.out.1; omega
          replace t1 := eq_true t1
          replace t2 := eq_true t2
          clear hw7
          go_upto_region 21 with (fail)
          rw [HW7.out]
          clear x0 x1 x2 x3 x4
          obtain ⟨x0, x1, x2, x3, x4⟩ := four_of R7.out.blk
          obtain ⟨e0, e1, e2⟩ := R7.out.key g' HG.out.1
          have hr1 : (if (nd l g').f0.f0 = 0 then ((g' : Int), g') else roomL l g') = roomL l f := HR.out.1
          by_cases hz : (nd l g').f0.f0 = 0
          · rw [if_pos hz] at hr1
            rw [hz] at e0
            have HR1 := Lib.hid hr1
            clear hr1 hz
            go_quiet (fail)
            have R8 := Lib.hid (R7.out.below (pw_below_drewN (Below.refl _ _) nq))
            obtain ⟨y0, y1, y2, y3, y4⟩ := four_of R8.out.blk
            go_wp2_with fail
            go_roundg 0
            case measure => have := HR.out.2; omega
            case rel => exact ⟨g', (g' : Int), rfl, by have := HG.out.2; omega, Lib.hid (.inr ⟨rfl, HR1.out.symm, rfl⟩), R8, Lib.hid (pw_below_drewN B7.out _), Lib.hid (blk_drewN K7.out _), Lib.hid (blk_drewN V7.out _), S7⟩
          · rw [if_neg hz] at hr1
            have hzb : ((nd l g').f0.f0 == 0) = false := beq_eq_false_iff_ne.2 hz
            have HR1 := Lib.hid hr1
            clear hr1 hz
            go_quiet (fail)
            go_wp2_with fail
            go_roundg (g' + 1)
            case measure => have := HR.out.2; omega
            case rel => exact ⟨g', -1, rfl, by have := HG.out.2; omega, Lib.hid (.inl ⟨rfl, HR1.out, rfl⟩), Lib.hid (R7.out.below (pw_below_drewN (Below.refl _ _) _)), Lib.hid (pw_below_drewN B7.out _), Lib.hid (blk_drewN K7.out _), Lib.hid (blk_drewN V7.out _), S7⟩
      · have HR := Lib.hid (And.intro hr hkq)
        have c1 : decide ((g : Int) < 0) = false := decide_eq_false (by omega)
        clear hr hkq hph
        go_wp2_with fail
        go_meet
        case rel => exact ⟨by rw [HR.out.1], Lib.hid (by rw [HR.out.1]; exact hR.out), hB6, hK, hV, hS⟩
  case rest =>
    obtain ⟨rfl, hR7, hB7, hK7, hV7, S7⟩ := hcut
    clear R6 K6 V6 S6 B6 x0 x1 x2 x3 x4 e0 e1 e2
    rw [HRM.out] at hR7 ⊢
    have c1 : decide ((-1 : Int) < 0) = true := by decide
    go_wp2_with fail
    go_ret2
    exact ⟨rfl, hR7.out, hB7.out⟩
end Go.Proofs.Ytlmmhlabacghnaa.PH
