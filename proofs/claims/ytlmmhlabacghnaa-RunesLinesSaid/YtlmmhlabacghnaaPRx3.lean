-- Written by a program of this session's (the kit's print, turned), out of the translation.
import Derived.Test.YtlmmhlabacghnaaPRx0
import Derived.Test.YtlmmhlabacghnaaPRx2
import Derived.Test.YtlmmhlabacghnaaList
import Derived.Test.YtlmmhlabacghnaaPlace
namespace Go.Proofs.Ytlmmhlabacghnaa.PR
open Go.RowKit Go.Proofs.YtlmmhlabacghnaaW.PrintWords Go.Proofs.YtlmmhlabacghnaaW.PrintLast Go.Proofs.YtlmmhlabacghnaaW.PrintMore
attribute [local go_sem] max2_int min2_int max_two min_two max_three min_three max_four min_four   -- for this text's walks alone
set_option linter.unusedVariables false
set_option linter.unusedSimpArgs false

/-! ### trestlelaw01_RunesLines: function 8 -/
mutual
def trestlelaw01_RunesLines.j0 : Nat → ByteArray → Option (Bool)
  | 0, _ => none
  | k + 1, x0 => (runes_List.f x0).bind fun t115 => (trestlelaw01_RunesLines.l0 k x0 t115 1 1 0)
def trestlelaw01_RunesLines.l0 : Nat → ByteArray → List (S44) → Int → Int → Int → Option (Bool)
  | 0, _, _, _, _, _ => none
  | k + 1, x0, x3, x4, x5, x6 => if x6 < (x3.length : Int) then (if 0 ≤ x6 then ((runes_Place.f x0 ((rd_T44 x3 x6).f0)).bind fun bt125 => (if bt125.2.2 = 0 then (if bt125.1 = x4 then (trestlelaw01_RunesLines.j2 k x0 x3 x4 x5 x6 (bt125.2.1 != x5)) else (trestlelaw01_RunesLines.j2 k x0 x3 x4 x5 x6 true)) else (trestlelaw01_RunesLines.j2 k x0 x3 x4 x5 x6 true))) else (none)) else ((runes_Place.f x0 (x0.size : Int)).bind fun bt118 => ((runes_Place.f x0 (wrap64 ((x0.size : Int) + 1))).bind fun bt121 => (if bt118.2.2 = 0 then (if bt118.1 = x4 then (if bt118.2.1 = x5 then (some (bt121.2.2 == 1)) else (some false)) else (some false)) else (some false))))
def trestlelaw01_RunesLines.j2 : Nat → ByteArray → List (S44) → Int → Int → Int → Bool → Option (Bool)
  | 0, _, _, _, _, _, _ => none
  | k + 1, x0, x3, x4, x5, x6, x53 => if x53 = true then (some false) else (if 0 ≤ x6 then (if x6 < (x3.length : Int) then (if ((rd_T44 x3 x6).f2) = 10 then (trestlelaw01_RunesLines.l0 k x0 x3 (wrap64 (x4 + 1)) 1 (wrap64 (x6 + 1))) else (trestlelaw01_RunesLines.l0 k x0 x3 x4 (wrap64 (x5 + 1)) (wrap64 (x6 + 1)))) else (none)) else (none))
end
def trestlelaw01_RunesLines.f (k : Nat) (a0 : ByteArray) : Option (Bool) := (trestlelaw01_fixed.f).bind fun t114 => (if t114 = true then (if (a0.size : Int) > 300 then (if 0 ≤ 300 then (if 300 ≤ (a0.size : Int) then (trestlelaw01_RunesLines.j0 k (a0.extract 0 300)) else (none)) else (none)) else (trestlelaw01_RunesLines.j0 k a0)) else (some false))
theorem trestlelaw01_RunesLines.mono_l : ∀ k, (∀ y0, LeO (trestlelaw01_RunesLines.j0 k y0) (trestlelaw01_RunesLines.j0 (k + 1) y0)) ∧ (∀ y0 y1 y2 y3 y4, LeO (trestlelaw01_RunesLines.l0 k y0 y1 y2 y3 y4) (trestlelaw01_RunesLines.l0 (k + 1) y0 y1 y2 y3 y4)) ∧ (∀ y0 y1 y2 y3 y4 y5, LeO (trestlelaw01_RunesLines.j2 k y0 y1 y2 y3 y4 y5) (trestlelaw01_RunesLines.j2 (k + 1) y0 y1 y2 y3 y4 y5))
  | 0 => ⟨fun _ r h => by simp [trestlelaw01_RunesLines.j0] at h, fun _ _ _ _ _ r h => by simp [trestlelaw01_RunesLines.l0] at h, fun _ _ _ _ _ _ r h => by simp [trestlelaw01_RunesLines.j2] at h⟩
  | k + 1 => by
    obtain ⟨ih0, ih1, ih2⟩ := trestlelaw01_RunesLines.mono_l k
    refine ⟨?_, ?_, ?_⟩
    · intro y0
      unfold trestlelaw01_RunesLines.j0
      repeat' first
      | (with_reducible exact ih0 _)
      | (with_reducible exact ih1 _ _ _ _ _)
      | (with_reducible exact ih2 _ _ _ _ _ _)
      | (with_reducible exact LeO.refl _)
      | (with_reducible exact LeO.none _)
      | (with_reducible refine LeO.ite ?_ ?_)
      | (with_reducible refine LeO.bind ?_ (fun _ => ?_))
      | exact ih0 _
      | exact ih1 _ _ _ _ _
      | exact ih2 _ _ _ _ _ _
      | exact LeO.none _
      | refine LeO.ite ?_ ?_
      | refine LeO.bind ?_ (fun _ => ?_)
    · intro y0 y1 y2 y3 y4
      unfold trestlelaw01_RunesLines.l0
      repeat' first
      | (with_reducible exact ih0 _)
      | (with_reducible exact ih1 _ _ _ _ _)
      | (with_reducible exact ih2 _ _ _ _ _ _)
      | (with_reducible exact LeO.refl _)
      | (with_reducible exact LeO.none _)
      | (with_reducible refine LeO.ite ?_ ?_)
      | (with_reducible refine LeO.bind ?_ (fun _ => ?_))
      | exact ih0 _
      | exact ih1 _ _ _ _ _
      | exact ih2 _ _ _ _ _ _
      | exact LeO.none _
      | refine LeO.ite ?_ ?_
      | refine LeO.bind ?_ (fun _ => ?_)
    · intro y0 y1 y2 y3 y4 y5
      unfold trestlelaw01_RunesLines.j2
      repeat' first
      | (with_reducible exact ih0 _)
      | (with_reducible exact ih1 _ _ _ _ _)
      | (with_reducible exact ih2 _ _ _ _ _ _)
      | (with_reducible exact LeO.refl _)
      | (with_reducible exact LeO.none _)
      | (with_reducible refine LeO.ite ?_ ?_)
      | (with_reducible refine LeO.bind ?_ (fun _ => ?_))
      | exact ih0 _
      | exact ih1 _ _ _ _ _
      | exact ih2 _ _ _ _ _ _
      | exact LeO.none _
      | refine LeO.ite ?_ ?_
      | refine LeO.bind ?_ (fun _ => ?_)
theorem trestlelaw01_RunesLines.mono : ∀ a0 k, LeO (trestlelaw01_RunesLines.f k a0) (trestlelaw01_RunesLines.f (k + 1) a0) := by
  intro a0 k
  obtain ⟨ih0, ih1, ih2⟩ := trestlelaw01_RunesLines.mono_l k
  unfold trestlelaw01_RunesLines.f
  repeat' first
      | (with_reducible exact ih0 _)
      | (with_reducible exact ih1 _ _ _ _ _)
      | (with_reducible exact ih2 _ _ _ _ _ _)
      | (with_reducible exact LeO.refl _)
      | (with_reducible exact LeO.none _)
      | (with_reducible refine LeO.ite ?_ ?_)
      | (with_reducible refine LeO.bind ?_ (fun _ => ?_))
      | exact ih0 _
      | exact ih1 _ _ _ _ _
      | exact ih2 _ _ _ _ _ _
      | exact LeO.none _
      | refine LeO.ite ?_ ?_
      | refine LeO.bind ?_ (fun _ => ?_)
set_option maxHeartbeats 8000000 in
set_option maxRecDepth 100000 in
theorem trestlelaw01_RunesLines.calls (k : Nat) (a0 : ByteArray) (r : Bool) (w : World) (h : trestlelaw01_RunesLines.f k a0 = some r) :
    Calls Try.prog 8 #[.string a0] w fun e w' => e = .returned (.bool r) ∧ Below w.heap.size w w' := by
  have HB := Aside0.mk (Below.refl w.heap.size w)
  have H : ((trestlelaw01_fixed.f).bind fun t114 => (if t114 = true then (if (a0.size : Int) > 300 then (if 0 ≤ 300 then (if 300 ≤ (a0.size : Int) then (trestlelaw01_RunesLines.j0 k (a0.extract 0 300)) else (none)) else (none)) else (trestlelaw01_RunesLines.j0 k a0)) else (some false))) = some r := h
  clear h
  replace H := Option.bind_eq_some_iff.mp H
  obtain ⟨t114, A20, H⟩ := H
  replace H : (if t114 = true then (if (a0.size : Int) > 300 then (if 0 ≤ 300 then (if 300 ≤ (a0.size : Int) then (trestlelaw01_RunesLines.j0 k (a0.extract 0 300)) else (none)) else (none)) else (trestlelaw01_RunesLines.j0 k a0)) else (some false)) = some r := H
  have A2 := Aside0.mk A20
  clear A20
  by_cases c3 : t114 = true
  · subst c3
    have H1 : (if (a0.size : Int) > 300 then (if 0 ≤ 300 then (if 300 ≤ (a0.size : Int) then (trestlelaw01_RunesLines.j0 k (a0.extract 0 300)) else (none)) else (none)) else (trestlelaw01_RunesLines.j0 k a0)) = some r := by rw [if_pos rfl] at H; exact H
    clear H
    have H := H1
    clear H1
    have HC4 := Aside0.mk H
    clear H
    go_enter Try.func8, Try.ntmps8
    go_upto_if 20 with (first | ((with_reducible refine gate_callee (f := 23) rfl ?_); refine goesL_ (some 16) rfl rfl Try.func23 (by kernel_rfl) rfl #[] rfl (by (try simp only [List.map_toArray, List.map_cons, List.map_nil]); first | done | rfl | (simp only [List.length_drop, List.length_take]; rfl)) ?_; (with_reducible refine (trestlelaw01_fixed.calls  true _ A2.out).mono ?_); rintro e w5 ⟨rfl, hb⟩; refine ⟨_, rfl, ?_⟩; have n0_ := Aside0.mk (below_step (by repeat (first | (with_reducible first | exact HB.out | apply below_alloc | apply pw_below_drewN | apply below_drew1) | exact HB.out)) hb); clear HB; have HB := n0_; clear n0_; (try clear hb); (try clear hb2); (try clear hk); (try clear hi)))
    (try simp only [Act.put, List.setIfInBounds_toArray, List.set_cons_zero, List.set_cons_succ])
    go_cut [0] (fun v0 wc => ∃ (kq : Nat) (x0_3 : ByteArray), v0 = .string x0_3 ∧ Aside0 (trestlelaw01_RunesLines.j0 kq x0_3 = some r) ∧ Aside0 (kq ≤ k) ∧ Aside0 (Below w.heap.size w wc))
    case first =>
      have H := HC4.out
      clear HC4
      by_cases c6 : (a0.size : Int) > 300
      · rw [if_pos c6] at H
        have c6b0 : decide (300 < (a0.size : Int)) = true := decide_eq_true c6
        have c6b1 : decide (300 < a0.size) = true := decide_eq_true (by omega)
        clear c6
        (first | rw [c6b0] | (simp only [i64_w, i32_w]; rw [c6b0]) | skip)
        by_cases c7 : 0 ≤ 300
        · rw [if_pos c7] at H
          have c7b0 := eq_true c7
          have c7b1 : decide (0 ≤ 300) = true := decide_eq_true c7
          clear c7
          by_cases c8 : 300 ≤ (a0.size : Int)
          · rw [if_pos c8] at H
            have c8b0 := eq_true c8
            have c8b1 : decide (300 ≤ (a0.size : Int)) = true := decide_eq_true c8
            clear c8
            have H' := Aside0.mk H
            clear H
            go_wp2
            go_meet
            case rel => exact ⟨_, (a0.extract 0 300), (by first | rfl | (simp; done) | (simp [*]; done)), H', ⟨by first | omega | exact Nat.le_refl _⟩, ⟨by repeat (first | (with_reducible first | exact HB.out | apply below_alloc | apply pw_below_drewN | apply below_drew1) | exact HB.out)⟩⟩
          · rw [if_neg c8] at H
            exact absurd H (by simp)
        · rw [if_neg c7] at H
          exact absurd H (by simp)
      · rw [if_neg c6] at H
        have c6b0 : decide (300 < (a0.size : Int)) = false := decide_eq_false c6
        have c6b1 : decide (300 < a0.size) = false := decide_eq_false (by omega)
        clear c6
        (first | rw [c6b0] | (simp only [i64_w, i32_w]; rw [c6b0]) | skip)
        have H' := Aside0.mk H
        clear H
        go_wp2
        go_meet
        case rel => exact ⟨_, (a0), (by first | rfl | (simp; done) | (simp [*]; done)), H', ⟨by first | omega | exact Nat.le_refl _⟩, ⟨by repeat (first | (with_reducible first | exact HB.out | apply below_alloc | apply pw_below_drewN | apply below_drew1) | exact HB.out)⟩⟩
    case rest =>
      clear HC4
      try clear c2
      try clear p2
      try clear c3
      try clear c6
      try clear c6b0
      try clear c6b1
      try clear c7
      try clear c7b0
      try clear c7b1
      try clear c8
      try clear c8b0
      try clear c8b1
      obtain ⟨kq, x0_3, rfl, HA, HJ3, HB⟩ := hcut
      cases kq with
      | zero => exact absurd HA.out (by simp [trestlelaw01_RunesLines.j0])
      | succ kj3 =>
        have H := HA.out
        clear HA
        simp only [trestlelaw01_RunesLines.j0] at H
        replace H := Option.bind_eq_some_iff.mp H
        obtain ⟨t115, A90, H⟩ := H
        replace H : (trestlelaw01_RunesLines.l0 kj3 x0_3 t115 1 1 0) = some r := H
        have A9 := Aside0.mk A90
        clear A90
        have H' := Aside0.mk H
        clear H
        go_wp2_with (first | ((with_reducible refine gate_callee (f := 32) rfl ?_); refine goesL_ (some 24) rfl rfl Try.func32 (by kernel_rfl) rfl #[.string x0_3] rfl (by (try simp only [List.map_toArray, List.map_cons, List.map_nil]); first | done | rfl | (simp only [List.length_drop, List.length_take]; rfl)) ?_; (with_reducible refine (runes_List.calls x0_3 t115 _ A9.out).mono ?_); rintro e w10 ⟨v116, rfl, ho0, hb⟩; refine ⟨_, rfl, ?_⟩; have n0_ := Aside0.mk (Kd.R_lower ho0 (below_size (by repeat (first | (with_reducible first | exact HB.out | apply below_alloc | apply pw_below_drewN | apply below_drew1) | exact HB.out)))); have n1_ := Aside0.mk (below_step (by repeat (first | (with_reducible first | exact HB.out | apply below_alloc | apply pw_below_drewN | apply below_drew1) | exact HB.out)) hb); clear HB; have HO117 := n0_; have HB := n1_; clear n0_ n1_; (try clear hb); (try clear hb2); (try clear hk); (try clear hi); (try clear ho0)))
        go_loopg [4, 5, 6] kj3 (fun kq v4 v5 v6 w' => ∃ (x4_2 : Int) (x5_2 : Int) (x6_2 : Int), v4 = .int .i64 x4_2 ∧ v5 = .int .i64 x5_2 ∧ v6 = .int .i64 x6_2 ∧ Aside0 (trestlelaw01_RunesLines.l0 kq x0_3 t115 x4_2 x5_2 x6_2 = some r) ∧ Aside0 (kq ≤ kj3) ∧ Aside0 (Kd.R k44 44 w' w.heap.size (fun _ => True) v116 t115) ∧ Aside0 (Below w.heap.size w w'))
        case atStart => exact ⟨(1), (1), (0), (by first | rfl | (simp; done) | (simp [*]; done)), (by first | rfl | (simp; done) | (simp [*]; done)), (by first | rfl | (simp; done) | (simp [*]; done)), H', ⟨Nat.le_refl _⟩, ⟨by (with_reducible repeat (first | apply Kd.R_alloc | apply Kd.R_drewN | apply Kd.R_drew)); exact HO117.out⟩, ⟨by repeat (first | (with_reducible first | exact HB.out | apply below_alloc | apply pw_below_drewN | apply below_drew1) | exact HB.out)⟩⟩
        case round =>
          clear H'
          try clear c2
          try clear p2
          try clear c3
          try clear c6
          try clear c6b0
          try clear c6b1
          try clear c7
          try clear c7b0
          try clear c7b1
          try clear c8
          try clear c8b0
          try clear c8b1
          try clear p2
          obtain ⟨x4_2, x5_2, x6_2, rfl, rfl, rfl, HA, HK2, HO_3, HB⟩ := hrel
          cases gk with
          | zero => exact absurd HA.out (by simp [trestlelaw01_RunesLines.l0])
          | succ k2 =>
            have H := HA.out
            clear HA
            simp only [trestlelaw01_RunesLines.l0] at H
            by_cases c11 : x6_2 < (t115.length : Int)
            · rw [if_pos c11] at H
              have c11b0 : decide (x6_2 < (t115.length : Int)) = true := decide_eq_true c11
              clear c11
              by_cases c12 : 0 ≤ x6_2
              · rw [if_pos c12] at H
                have c12b0 : decide (0 ≤ x6_2) = true := decide_eq_true c12
                clear c12
                replace H := Option.bind_eq_some_iff.mp H
                obtain ⟨⟨t125, t126, t127⟩, A130, H⟩ := H
                replace H : (if t127 = 0 then (if t125 = x4_2 then (trestlelaw01_RunesLines.j2 k2 x0_3 t115 x4_2 x5_2 x6_2 (t126 != x5_2)) else (trestlelaw01_RunesLines.j2 k2 x0_3 t115 x4_2 x5_2 x6_2 true)) else (trestlelaw01_RunesLines.j2 k2 x0_3 t115 x4_2 x5_2 x6_2 true)) = some r := H
                have A13 := Aside0.mk A130
                clear A130
                have HC14 := Aside0.mk H
                clear H
                obtain ⟨Ao15, co15, eo15⟩ := Kd.R_slice HO_3.out
                subst eo15
                have p124 : 0 ≤ (x6_2 : Int) := of_decide_eq_true (by first | (with_reducible assumption) | assumption)
                have q124 : x6_2 < (t115.length : Int) := of_decide_eq_true (by first | (with_reducible assumption) | assumption)
                obtain ⟨ad124, e124, hx124_0, hx124_1, hx124_2⟩ := at_T44 (Kd.R_reads' HO_3.out).2.2 x6_2 p124 q124
                cases e124
                replace p124 := eq_true p124
                replace q124 := eq_true q124
                go_upto_region 11 with (first | ((with_reducible refine gate_callee (f := 33) rfl ?_); refine goesL_ (some 38) rfl rfl Try.func33 (by kernel_rfl) rfl #[.string x0_3, .int .i64 ((rd_T44 t115 x6_2).f0)] rfl (by (try simp only [List.map_toArray, List.map_cons, List.map_nil]); first | done | rfl | (simp only [List.length_drop, List.length_take]; rfl)) ?_; (with_reducible refine (runes_Place.calls x0_3 ((rd_T44 t115 x6_2).f0) t125 t126 t127 _ A13.out).mono ?_); rintro e w16 ⟨rfl, hb⟩; refine ⟨_, rfl, ?_⟩; have n0_ := Aside0.mk (Kd.R_below (by (with_reducible repeat (first | apply Kd.R_alloc | apply Kd.R_drewN | apply Kd.R_drew)); exact HO_3.out) hb); have n1_ := Aside0.mk (below_step (by repeat (first | (with_reducible first | exact HB.out | apply below_alloc | apply pw_below_drewN | apply below_drew1) | exact HB.out)) hb); clear HO_3; clear HB; have HO_3 := n0_; have HB := n1_; clear n0_ n1_; (try clear hb); (try clear hb2); (try clear hk); (try clear hi)))
                (try simp only [Act.put, List.setIfInBounds_toArray, List.set_cons_zero, List.set_cons_succ])
                go_cut [53] (fun v53 wc => ∃ (kq : Nat) (x53_13 : Bool), v53 = .bool x53_13 ∧ Aside0 (trestlelaw01_RunesLines.j2 kq x0_3 t115 x4_2 x5_2 x6_2 x53_13 = some r) ∧ Aside0 (kq ≤ k2) ∧ Aside0 (Kd.R k44 44 wc w.heap.size (fun _ => True) (.slice (some ad124) t115.length co15) t115) ∧ Aside0 (Below w.heap.size w wc))
                case first =>
                  have H := HC14.out
                  clear HC14
                  by_cases c17 : t127 = 0
                  · rw [if_pos c17] at H
                    have c17b0 : (t127 == 0) = true := beq_iff_eq.mpr c17
                    have c17b1 : (t127 != 0) = false := bne_eq_false_iff_eq.mpr c17
                    clear c17
                    (first | rw [c17b0] | (simp only [i64_w, i32_w]; rw [c17b0]) | skip)
                    by_cases c18 : t125 = x4_2
                    · rw [if_pos c18] at H
                      have c18b0 : (t125 == x4_2) = true := beq_iff_eq.mpr c18
                      have c18b1 : (t125 != x4_2) = false := bne_eq_false_iff_eq.mpr c18
                      clear c18
                      have H' := Aside0.mk H
                      clear H
                      go_wp2
                      go_meet
                      case rel => exact ⟨_, ((t126 != x5_2)), (by first | rfl | (simp; done) | (simp [*]; done)), H', ⟨by have := HJ3.out; have := HK2.out; first | omega | exact Nat.le_refl _⟩, ⟨by (with_reducible repeat (first | apply Kd.R_alloc | apply Kd.R_drewN | apply Kd.R_drew)); exact HO_3.out⟩, ⟨by repeat (first | (with_reducible first | exact HB.out | apply below_alloc | apply pw_below_drewN | apply below_drew1) | exact HB.out)⟩⟩
                    · rw [if_neg c18] at H
                      have c18b0 : (t125 == x4_2) = false := beq_eq_false_iff_ne.mpr c18
                      have c18b1 : (t125 != x4_2) = true := bne_iff_ne.mpr c18
                      have H' := Aside0.mk H
                      clear H
                      go_wp2
                      go_meet
                      case rel => exact ⟨_, (true), (by first | rfl | (simp; done) | (simp [*]; done)), H', ⟨by have := HJ3.out; have := HK2.out; first | omega | exact Nat.le_refl _⟩, ⟨by (with_reducible repeat (first | apply Kd.R_alloc | apply Kd.R_drewN | apply Kd.R_drew)); exact HO_3.out⟩, ⟨by repeat (first | (with_reducible first | exact HB.out | apply below_alloc | apply pw_below_drewN | apply below_drew1) | exact HB.out)⟩⟩
                  · rw [if_neg c17] at H
                    have c17b0 : (t127 == 0) = false := beq_eq_false_iff_ne.mpr c17
                    have c17b1 : (t127 != 0) = true := bne_iff_ne.mpr c17
                    (first | rw [c17b0] | (simp only [i64_w, i32_w]; rw [c17b0]) | skip)
                    have H' := Aside0.mk H
                    clear H
                    go_wp2
                    go_meet
                    case rel => exact ⟨_, (true), (by first | rfl | (simp; done) | (simp [*]; done)), H', ⟨by have := HJ3.out; have := HK2.out; first | omega | exact Nat.le_refl _⟩, ⟨by (with_reducible repeat (first | apply Kd.R_alloc | apply Kd.R_drewN | apply Kd.R_drew)); exact HO_3.out⟩, ⟨by repeat (first | (with_reducible first | exact HB.out | apply below_alloc | apply pw_below_drewN | apply below_drew1) | exact HB.out)⟩⟩
                case rest =>
                  clear HC14
                  try clear c1
                  try clear p1
                  try clear q1
                  try clear hx1
                  try clear c2
                  try clear p2
                  try clear c3
                  try clear c6
                  try clear c6b0
                  try clear c6b1
                  try clear c7
                  try clear c7b0
                  try clear c7b1
                  try clear c8
                  try clear c8b0
                  try clear c8b1
                  try clear c11
                  try clear c11b0
                  try clear c12
                  try clear c12b0
                  try clear p12
                  try clear q12
                  try clear hx12
                  try clear c17
                  try clear c17b0
                  try clear c17b1
                  try clear c18
                  try clear c18b0
                  try clear c18b1
                  try clear hx124_0
                  try clear hx124_1
                  try clear hx124_2
                  try clear p124
                  try clear p2
                  try clear q124
                  obtain ⟨kq, x53_13, rfl, HA, HJ13, HO_3, HB⟩ := hcut
                  cases kq with
                  | zero => exact absurd HA.out (by simp [trestlelaw01_RunesLines.j2])
                  | succ kj13 =>
                    have H := HA.out
                    clear HA
                    simp only [trestlelaw01_RunesLines.j2] at H
                    by_cases c19 : x53_13 = true
                    · subst c19
                      have H1 : (some false) = some r := by rw [if_pos rfl] at H; exact H
                      clear H
                      have H := H1
                      clear H1
                      obtain rfl := Option.some.inj H
                      go_wp2
                      go_ret
                      exact ⟨by first | rfl | (simp [errW_none, errW_some] <;> rfl) | (simp [*, errW_none, errW_some] <;> rfl), by repeat (first | (with_reducible first | exact HB.out | apply below_alloc | apply pw_below_drewN | apply below_drew1) | exact HB.out)⟩
                    · replace c19 := Bool.eq_false_iff.mpr c19
                      subst c19
                      have H1 : (if 0 ≤ x6_2 then (if x6_2 < (t115.length : Int) then (if ((rd_T44 t115 x6_2).f2) = 10 then (trestlelaw01_RunesLines.l0 kj13 x0_3 t115 (wrap64 (x4_2 + 1)) 1 (wrap64 (x6_2 + 1))) else (trestlelaw01_RunesLines.l0 kj13 x0_3 t115 x4_2 (wrap64 (x5_2 + 1)) (wrap64 (x6_2 + 1)))) else (none)) else (none)) = some r := by rw [if_neg (show ¬ (false = true) by decide)] at H; exact H
                      clear H
                      have H := H1
                      clear H1
                      by_cases c20 : 0 ≤ x6_2
                      · rw [if_pos c20] at H
                        have c20b0 : decide (0 ≤ x6_2) = true := decide_eq_true c20
                        clear c20
                        by_cases c21 : x6_2 < (t115.length : Int)
                        · rw [if_pos c21] at H
                          have c21b0 : decide (x6_2 < (t115.length : Int)) = true := decide_eq_true c21
                          clear c21
                          by_cases c22 : ((rd_T44 t115 x6_2).f2) = 10
                          · rw [if_pos c22] at H
                            have c22b0 : (((rd_T44 t115 x6_2).f2) == 10) = true := beq_iff_eq.mpr c22
                            have c22b1 : (((rd_T44 t115 x6_2).f2) != 10) = false := bne_eq_false_iff_eq.mpr c22
                            clear c22
                            have H' := Aside0.mk H
                            clear H
                            have p128 : 0 ≤ (x6_2 : Int) := of_decide_eq_true (by first | (with_reducible assumption) | assumption)
                            have q128 : x6_2 < (t115.length : Int) := of_decide_eq_true (by first | (with_reducible assumption) | assumption)
                            obtain ⟨ad128, e128, hx128_0, hx128_1, hx128_2⟩ := at_T44 (Kd.R_reads' HO_3.out).2.2 x6_2 p128 q128
                            obtain rfl : ad124 = ad128 := (by injection e128)
                            replace p128 := eq_true p128
                            replace q128 := eq_true q128
                            go_wp2
                            go_roundg kj13
                            case measure => have := HJ3.out; have := HK2.out; have := HJ13.out; omega
                            case rel => exact ⟨(wrap64 (x4_2 + 1)), (1), (wrap64 (x6_2 + 1)), (by first | rfl | (simp; done) | (simp [*]; done)), (by first | rfl | (simp; done) | (simp [*]; done)), (by first | rfl | (simp; done) | (simp [*]; done)), H', ⟨by have := HJ3.out; have := HK2.out; have := HJ13.out; omega⟩, ⟨by (with_reducible repeat (first | apply Kd.R_alloc | apply Kd.R_drewN | apply Kd.R_drew)); exact HO_3.out⟩, ⟨by repeat (first | (with_reducible first | exact HB.out | apply below_alloc | apply pw_below_drewN | apply below_drew1) | exact HB.out)⟩⟩
                          · rw [if_neg c22] at H
                            have c22b0 : (((rd_T44 t115 x6_2).f2) == 10) = false := beq_eq_false_iff_ne.mpr c22
                            have c22b1 : (((rd_T44 t115 x6_2).f2) != 10) = true := bne_iff_ne.mpr c22
                            have H' := Aside0.mk H
                            clear H
                            have p128 : 0 ≤ (x6_2 : Int) := of_decide_eq_true (by first | (with_reducible assumption) | assumption)
                            have q128 : x6_2 < (t115.length : Int) := of_decide_eq_true (by first | (with_reducible assumption) | assumption)
                            obtain ⟨ad128, e128, hx128_0, hx128_1, hx128_2⟩ := at_T44 (Kd.R_reads' HO_3.out).2.2 x6_2 p128 q128
                            obtain rfl : ad124 = ad128 := (by injection e128)
                            replace p128 := eq_true p128
                            replace q128 := eq_true q128
                            go_wp2
                            go_roundg kj13
                            case measure => have := HJ3.out; have := HK2.out; have := HJ13.out; omega
                            case rel => exact ⟨(x4_2), (wrap64 (x5_2 + 1)), (wrap64 (x6_2 + 1)), (by first | rfl | (simp; done) | (simp [*]; done)), (by first | rfl | (simp; done) | (simp [*]; done)), (by first | rfl | (simp; done) | (simp [*]; done)), H', ⟨by have := HJ3.out; have := HK2.out; have := HJ13.out; omega⟩, ⟨by (with_reducible repeat (first | apply Kd.R_alloc | apply Kd.R_drewN | apply Kd.R_drew)); exact HO_3.out⟩, ⟨by repeat (first | (with_reducible first | exact HB.out | apply below_alloc | apply pw_below_drewN | apply below_drew1) | exact HB.out)⟩⟩
                        · rw [if_neg c21] at H
                          exact absurd H (by simp)
                      · rw [if_neg c20] at H
                        exact absurd H (by simp)
              · rw [if_neg c12] at H
                exact absurd H (by simp)
            · rw [if_neg c11] at H
              have c11b0 : decide (x6_2 < (t115.length : Int)) = false := decide_eq_false c11
              clear c11
              replace H := Option.bind_eq_some_iff.mp H
              obtain ⟨⟨t118, t119, t120⟩, A230, H⟩ := H
              replace H : ((runes_Place.f x0_3 (wrap64 ((x0_3.size : Int) + 1))).bind fun bt121 => (if t120 = 0 then (if t118 = x4_2 then (if t119 = x5_2 then (some (bt121.2.2 == 1)) else (some false)) else (some false)) else (some false))) = some r := H
              have A23 := Aside0.mk A230
              clear A230
              replace H := Option.bind_eq_some_iff.mp H
              obtain ⟨⟨t121, t122, t123⟩, A240, H⟩ := H
              replace H : (if t120 = 0 then (if t118 = x4_2 then (if t119 = x5_2 then (some (t123 == 1)) else (some false)) else (some false)) else (some false)) = some r := H
              have A24 := Aside0.mk A240
              clear A240
              by_cases c25 : t120 = 0
              · rw [if_pos c25] at H
                have c25b0 : (t120 == 0) = true := beq_iff_eq.mpr c25
                have c25b1 : (t120 != 0) = false := bne_eq_false_iff_eq.mpr c25
                clear c25
                by_cases c26 : t118 = x4_2
                · rw [if_pos c26] at H
                  have c26b0 : (t118 == x4_2) = true := beq_iff_eq.mpr c26
                  have c26b1 : (t118 != x4_2) = false := bne_eq_false_iff_eq.mpr c26
                  clear c26
                  by_cases c27 : t119 = x5_2
                  · rw [if_pos c27] at H
                    have c27b0 : (t119 == x5_2) = true := beq_iff_eq.mpr c27
                    have c27b1 : (t119 != x5_2) = false := bne_eq_false_iff_eq.mpr c27
                    clear c27
                    obtain rfl := Option.some.inj H
                    obtain ⟨Ao28, co28, eo28⟩ := Kd.R_slice HO_3.out
                    subst eo28
                    go_wp2_with (first | ((with_reducible refine gate_callee (f := 33) rfl ?_); refine goesL_ (some 68) rfl rfl Try.func33 (by kernel_rfl) rfl #[.string x0_3, .int .i64 (x0_3.size : Int)] rfl (by (try simp only [List.map_toArray, List.map_cons, List.map_nil]); first | done | rfl | (simp only [List.length_drop, List.length_take]; rfl)) ?_; (with_reducible refine (runes_Place.calls x0_3 (x0_3.size : Int) t118 t119 t120 _ A23.out).mono ?_); rintro e w29 ⟨rfl, hb⟩; refine ⟨_, rfl, ?_⟩; have n0_ := Aside0.mk (Kd.R_below (by (with_reducible repeat (first | apply Kd.R_alloc | apply Kd.R_drewN | apply Kd.R_drew)); exact HO_3.out) hb); have n1_ := Aside0.mk (below_step (by repeat (first | (with_reducible first | exact HB.out | apply below_alloc | apply pw_below_drewN | apply below_drew1) | exact HB.out)) hb); clear HO_3; clear HB; have HO_3 := n0_; have HB := n1_; clear n0_ n1_; (try clear hb); (try clear hb2); (try clear hk); (try clear hi)) | ((with_reducible refine gate_callee (f := 33) rfl ?_); refine goesL_ (some 77) rfl rfl Try.func33 (by kernel_rfl) rfl #[.string x0_3, .int .i64 (wrap64 ((x0_3.size : Int) + 1))] rfl (by (try simp only [List.map_toArray, List.map_cons, List.map_nil]); first | done | rfl | (simp only [List.length_drop, List.length_take]; rfl)) ?_; (with_reducible refine (runes_Place.calls x0_3 (wrap64 ((x0_3.size : Int) + 1)) t121 t122 t123 _ A24.out).mono ?_); rintro e w30 ⟨rfl, hb⟩; refine ⟨_, rfl, ?_⟩; have n0_ := Aside0.mk (Kd.R_below (by (with_reducible repeat (first | apply Kd.R_alloc | apply Kd.R_drewN | apply Kd.R_drew)); exact HO_3.out) hb); have n1_ := Aside0.mk (below_step (by repeat (first | (with_reducible first | exact HB.out | apply below_alloc | apply pw_below_drewN | apply below_drew1) | exact HB.out)) hb); clear HO_3; clear HB; have HO_3 := n0_; have HB := n1_; clear n0_ n1_; (try clear hb); (try clear hb2); (try clear hk); (try clear hi)))
                    go_ret
                    exact ⟨by first | rfl | (simp [errW_none, errW_some] <;> rfl) | (simp [*, errW_none, errW_some] <;> rfl), by repeat (first | (with_reducible first | exact HB.out | apply below_alloc | apply pw_below_drewN | apply below_drew1) | exact HB.out)⟩
                  · rw [if_neg c27] at H
                    have c27b0 : (t119 == x5_2) = false := beq_eq_false_iff_ne.mpr c27
                    have c27b1 : (t119 != x5_2) = true := bne_iff_ne.mpr c27
                    obtain rfl := Option.some.inj H
                    obtain ⟨Ao31, co31, eo31⟩ := Kd.R_slice HO_3.out
                    subst eo31
                    go_wp2_with (first | ((with_reducible refine gate_callee (f := 33) rfl ?_); refine goesL_ (some 68) rfl rfl Try.func33 (by kernel_rfl) rfl #[.string x0_3, .int .i64 (x0_3.size : Int)] rfl (by (try simp only [List.map_toArray, List.map_cons, List.map_nil]); first | done | rfl | (simp only [List.length_drop, List.length_take]; rfl)) ?_; (with_reducible refine (runes_Place.calls x0_3 (x0_3.size : Int) t118 t119 t120 _ A23.out).mono ?_); rintro e w32 ⟨rfl, hb⟩; refine ⟨_, rfl, ?_⟩; have n0_ := Aside0.mk (Kd.R_below (by (with_reducible repeat (first | apply Kd.R_alloc | apply Kd.R_drewN | apply Kd.R_drew)); exact HO_3.out) hb); have n1_ := Aside0.mk (below_step (by repeat (first | (with_reducible first | exact HB.out | apply below_alloc | apply pw_below_drewN | apply below_drew1) | exact HB.out)) hb); clear HO_3; clear HB; have HO_3 := n0_; have HB := n1_; clear n0_ n1_; (try clear hb); (try clear hb2); (try clear hk); (try clear hi)) | ((with_reducible refine gate_callee (f := 33) rfl ?_); refine goesL_ (some 77) rfl rfl Try.func33 (by kernel_rfl) rfl #[.string x0_3, .int .i64 (wrap64 ((x0_3.size : Int) + 1))] rfl (by (try simp only [List.map_toArray, List.map_cons, List.map_nil]); first | done | rfl | (simp only [List.length_drop, List.length_take]; rfl)) ?_; (with_reducible refine (runes_Place.calls x0_3 (wrap64 ((x0_3.size : Int) + 1)) t121 t122 t123 _ A24.out).mono ?_); rintro e w33 ⟨rfl, hb⟩; refine ⟨_, rfl, ?_⟩; have n0_ := Aside0.mk (Kd.R_below (by (with_reducible repeat (first | apply Kd.R_alloc | apply Kd.R_drewN | apply Kd.R_drew)); exact HO_3.out) hb); have n1_ := Aside0.mk (below_step (by repeat (first | (with_reducible first | exact HB.out | apply below_alloc | apply pw_below_drewN | apply below_drew1) | exact HB.out)) hb); clear HO_3; clear HB; have HO_3 := n0_; have HB := n1_; clear n0_ n1_; (try clear hb); (try clear hb2); (try clear hk); (try clear hi)))
                    go_ret
                    exact ⟨by first | rfl | (simp [errW_none, errW_some] <;> rfl) | (simp [*, errW_none, errW_some] <;> rfl), by repeat (first | (with_reducible first | exact HB.out | apply below_alloc | apply pw_below_drewN | apply below_drew1) | exact HB.out)⟩
                · rw [if_neg c26] at H
                  have c26b0 : (t118 == x4_2) = false := beq_eq_false_iff_ne.mpr c26
                  have c26b1 : (t118 != x4_2) = true := bne_iff_ne.mpr c26
                  obtain rfl := Option.some.inj H
                  obtain ⟨Ao34, co34, eo34⟩ := Kd.R_slice HO_3.out
                  subst eo34
                  go_wp2_with (first | ((with_reducible refine gate_callee (f := 33) rfl ?_); refine goesL_ (some 68) rfl rfl Try.func33 (by kernel_rfl) rfl #[.string x0_3, .int .i64 (x0_3.size : Int)] rfl (by (try simp only [List.map_toArray, List.map_cons, List.map_nil]); first | done | rfl | (simp only [List.length_drop, List.length_take]; rfl)) ?_; (with_reducible refine (runes_Place.calls x0_3 (x0_3.size : Int) t118 t119 t120 _ A23.out).mono ?_); rintro e w35 ⟨rfl, hb⟩; refine ⟨_, rfl, ?_⟩; have n0_ := Aside0.mk (Kd.R_below (by (with_reducible repeat (first | apply Kd.R_alloc | apply Kd.R_drewN | apply Kd.R_drew)); exact HO_3.out) hb); have n1_ := Aside0.mk (below_step (by repeat (first | (with_reducible first | exact HB.out | apply below_alloc | apply pw_below_drewN | apply below_drew1) | exact HB.out)) hb); clear HO_3; clear HB; have HO_3 := n0_; have HB := n1_; clear n0_ n1_; (try clear hb); (try clear hb2); (try clear hk); (try clear hi)) | ((with_reducible refine gate_callee (f := 33) rfl ?_); refine goesL_ (some 77) rfl rfl Try.func33 (by kernel_rfl) rfl #[.string x0_3, .int .i64 (wrap64 ((x0_3.size : Int) + 1))] rfl (by (try simp only [List.map_toArray, List.map_cons, List.map_nil]); first | done | rfl | (simp only [List.length_drop, List.length_take]; rfl)) ?_; (with_reducible refine (runes_Place.calls x0_3 (wrap64 ((x0_3.size : Int) + 1)) t121 t122 t123 _ A24.out).mono ?_); rintro e w36 ⟨rfl, hb⟩; refine ⟨_, rfl, ?_⟩; have n0_ := Aside0.mk (Kd.R_below (by (with_reducible repeat (first | apply Kd.R_alloc | apply Kd.R_drewN | apply Kd.R_drew)); exact HO_3.out) hb); have n1_ := Aside0.mk (below_step (by repeat (first | (with_reducible first | exact HB.out | apply below_alloc | apply pw_below_drewN | apply below_drew1) | exact HB.out)) hb); clear HO_3; clear HB; have HO_3 := n0_; have HB := n1_; clear n0_ n1_; (try clear hb); (try clear hb2); (try clear hk); (try clear hi)))
                  go_ret
                  exact ⟨by first | rfl | (simp [errW_none, errW_some] <;> rfl) | (simp [*, errW_none, errW_some] <;> rfl), by repeat (first | (with_reducible first | exact HB.out | apply below_alloc | apply pw_below_drewN | apply below_drew1) | exact HB.out)⟩
              · rw [if_neg c25] at H
                have c25b0 : (t120 == 0) = false := beq_eq_false_iff_ne.mpr c25
                have c25b1 : (t120 != 0) = true := bne_iff_ne.mpr c25
                obtain rfl := Option.some.inj H
                obtain ⟨Ao37, co37, eo37⟩ := Kd.R_slice HO_3.out
                subst eo37
                go_wp2_with (first | ((with_reducible refine gate_callee (f := 33) rfl ?_); refine goesL_ (some 68) rfl rfl Try.func33 (by kernel_rfl) rfl #[.string x0_3, .int .i64 (x0_3.size : Int)] rfl (by (try simp only [List.map_toArray, List.map_cons, List.map_nil]); first | done | rfl | (simp only [List.length_drop, List.length_take]; rfl)) ?_; (with_reducible refine (runes_Place.calls x0_3 (x0_3.size : Int) t118 t119 t120 _ A23.out).mono ?_); rintro e w38 ⟨rfl, hb⟩; refine ⟨_, rfl, ?_⟩; have n0_ := Aside0.mk (Kd.R_below (by (with_reducible repeat (first | apply Kd.R_alloc | apply Kd.R_drewN | apply Kd.R_drew)); exact HO_3.out) hb); have n1_ := Aside0.mk (below_step (by repeat (first | (with_reducible first | exact HB.out | apply below_alloc | apply pw_below_drewN | apply below_drew1) | exact HB.out)) hb); clear HO_3; clear HB; have HO_3 := n0_; have HB := n1_; clear n0_ n1_; (try clear hb); (try clear hb2); (try clear hk); (try clear hi)) | ((with_reducible refine gate_callee (f := 33) rfl ?_); refine goesL_ (some 77) rfl rfl Try.func33 (by kernel_rfl) rfl #[.string x0_3, .int .i64 (wrap64 ((x0_3.size : Int) + 1))] rfl (by (try simp only [List.map_toArray, List.map_cons, List.map_nil]); first | done | rfl | (simp only [List.length_drop, List.length_take]; rfl)) ?_; (with_reducible refine (runes_Place.calls x0_3 (wrap64 ((x0_3.size : Int) + 1)) t121 t122 t123 _ A24.out).mono ?_); rintro e w39 ⟨rfl, hb⟩; refine ⟨_, rfl, ?_⟩; have n0_ := Aside0.mk (Kd.R_below (by (with_reducible repeat (first | apply Kd.R_alloc | apply Kd.R_drewN | apply Kd.R_drew)); exact HO_3.out) hb); have n1_ := Aside0.mk (below_step (by repeat (first | (with_reducible first | exact HB.out | apply below_alloc | apply pw_below_drewN | apply below_drew1) | exact HB.out)) hb); clear HO_3; clear HB; have HO_3 := n0_; have HB := n1_; clear n0_ n1_; (try clear hb); (try clear hb2); (try clear hk); (try clear hi)))
                go_ret
                exact ⟨by first | rfl | (simp [errW_none, errW_some] <;> rfl) | (simp [*, errW_none, errW_some] <;> rfl), by repeat (first | (with_reducible first | exact HB.out | apply below_alloc | apply pw_below_drewN | apply below_drew1) | exact HB.out)⟩
  · replace c3 := Bool.eq_false_iff.mpr c3
    subst c3
    have H1 : (some false) = some r := by rw [if_neg (show ¬ (false = true) by decide)] at H; exact H
    clear H
    have H := H1
    clear H1
    obtain rfl := Option.some.inj H
    go_enter Try.func8, Try.ntmps8
    go_wp2_with (first | ((with_reducible refine gate_callee (f := 23) rfl ?_); refine goesL_ (some 16) rfl rfl Try.func23 (by kernel_rfl) rfl #[] rfl (by (try simp only [List.map_toArray, List.map_cons, List.map_nil]); first | done | rfl | (simp only [List.length_drop, List.length_take]; rfl)) ?_; (with_reducible refine (trestlelaw01_fixed.calls  false _ A2.out).mono ?_); rintro e w40 ⟨rfl, hb⟩; refine ⟨_, rfl, ?_⟩; have n0_ := Aside0.mk (below_step (by repeat (first | (with_reducible first | exact HB.out | apply below_alloc | apply pw_below_drewN | apply below_drew1) | exact HB.out)) hb); clear HB; have HB := n0_; clear n0_; (try clear hb); (try clear hb2); (try clear hk); (try clear hi)))
    go_ret
    exact ⟨by first | rfl | (simp [errW_none, errW_some] <;> rfl) | (simp [*, errW_none, errW_some] <;> rfl), by repeat (first | (with_reducible first | exact HB.out | apply below_alloc | apply pw_below_drewN | apply below_drew1) | exact HB.out)⟩

/-- THE ONE PURE STATEMENT of trestlelaw01_RunesLines: yours. -/
def trestlelaw01_RunesLines.Pure : Prop := ∀ (a0 : ByteArray), a0.size ≤ 140737488351232 → ∃ k, trestlelaw01_RunesLines.f k a0 = some true
theorem trestlelaw01_RunesLines.walk (P : trestlelaw01_RunesLines.Pure) (a0 : ByteArray) (w : World) (w0 : a0.size ≤ 140737488351232) :
    Calls Try.prog 8 #[.string a0] w fun e w' => e = .returned (.bool true) ∧ Below w.heap.size w w' := by
  obtain ⟨k, h⟩ := P a0 w0
  refine (trestlelaw01_RunesLines.calls k a0 true w h).mono ?_
  rintro e w' ⟨rfl, hd⟩
  exact ⟨rfl, hd⟩

end Go.Proofs.Ytlmmhlabacghnaa.PR
