-- Written by a program of this session's (the kit's print, turned), out of the translation.
import Derived.Test.YtlmmhlabacghnaaPHx0
import Derived.Test.YtlmmhlabacghnaaPHx1
import Derived.Test.YtlmmhlabacghnaaPHx7
namespace Go.Proofs.Ytlmmhlabacghnaa.PH
open Go.RowKit Go.Proofs.YtlmmhlabacghnaaW.PrintWords Go.Proofs.YtlmmhlabacghnaaW.PrintLast Go.Proofs.YtlmmhlabacghnaaW.PrintMore
attribute [local go_sem] max2_int min2_int max_two min_two max_three min_three max_four min_four   -- for this text's walks alone
set_option linter.unusedVariables false
set_option linter.unusedSimpArgs false

/-! ### trestlelaw04_HashSpreads: function 11 -/
mutual
def trestlelaw04_HashSpreads.j1 : Nat → Int → Int → Option (Bool)
  | 0, _, _ => none
  | k + 1, x0, x5 => if x0 < 0 then (if x0 > (wrap64 (-x5)) then (trestlelaw04_HashSpreads.j2 k x0 x5 true) else (trestlelaw04_HashSpreads.j2 k x0 x5 (decide (x0 > (wrap64 (9223372036854775807 - x5)))))) else (trestlelaw04_HashSpreads.j2 k x0 x5 (decide (x0 > (wrap64 (9223372036854775807 - x5)))))
def trestlelaw04_HashSpreads.j2 : Nat → Int → Int → Bool → Option (Bool)
  | 0, _, _, _ => none
  | k + 1, x0, x5, x38 => if x38 = true then (trestlelaw04_HashSpreads.j3 k 0 x5) else (trestlelaw04_HashSpreads.j3 k x0 x5)
def trestlelaw04_HashSpreads.j3 : Nat → Int → Int → Option (Bool)
  | 0, _, _ => none
  | k + 1, x0, x5 => (hash_Row.f k x0 x5 x5).bind fun bt202 => (if bt202.2 = 0 then (trestlelaw04_HashSpreads.j4 k x5 bt202.1 ((bt202.1.length : Int) != x5)) else (trestlelaw04_HashSpreads.j4 k x5 bt202.1 true))
def trestlelaw04_HashSpreads.j4 : Nat → Int → List Int → Bool → Option (Bool)
  | 0, _, _, _ => none
  | k + 1, x5, x7, x53 => if x53 = true then (some false) else (if 0 ≤ x5 then (if (x5 : Int).toNat ≤ 281474976710656 then (trestlelaw04_HashSpreads.l1 k x5 x7 (List.replicate (x5 : Int).toNat false) 0 0) else (none)) else (none))
def trestlelaw04_HashSpreads.l1 : Nat → Int → List Int → List Bool → Int → Int → Option (Bool)
  | 0, _, _, _, _, _ => none
  | k + 1, x5, x7, x9, x10, x11 => if x11 < (x7.length : Int) then (if 0 ≤ x11 then (if (rd x7 x11) < 0 then (trestlelaw04_HashSpreads.j6 k x5 x7 x9 x10 x11 true) else (trestlelaw04_HashSpreads.j6 k x5 x7 x9 x10 x11 (decide ((rd x7 x11) ≥ x5)))) else (none)) else (some (decide (x10 ≥ (wrap64 (x5 - 1)))))
def trestlelaw04_HashSpreads.j6 : Nat → Int → List Int → List Bool → Int → Int → Bool → Option (Bool)
  | 0, _, _, _, _, _, _ => none
  | k + 1, x5, x7, x9, x10, x11, x74 => if x74 = true then (some false) else (if 0 ≤ x11 then (if x11 < (x7.length : Int) then (if 0 ≤ (rd x7 x11) then (if (rd x7 x11) < (x9.length : Int) then (if (rdOf false x9 (rd x7 x11) = true) then (trestlelaw04_HashSpreads.l1 k x5 x7 (x9.set ((rd x7 x11) : Int).toNat true) x10 (wrap64 (x11 + 1))) else (trestlelaw04_HashSpreads.l1 k x5 x7 (x9.set ((rd x7 x11) : Int).toNat true) (wrap64 (x10 + 1)) (wrap64 (x11 + 1)))) else (none)) else (none)) else (none)) else (none))
def trestlelaw04_HashSpreads.l0 : Nat → Int → Int → Int → Int → Option (Bool)
  | 0, _, _, _, _ => none
  | k + 1, x0, x1, x5, x6 => if x6 < x1 then (if x5 < 512 then (trestlelaw04_HashSpreads.l0 k x0 x1 (wrap64 (x5 * 2)) (wrap64 (x6 + 1))) else (trestlelaw04_HashSpreads.j1 k x0 x5)) else (trestlelaw04_HashSpreads.j1 k x0 x5)
end
def trestlelaw04_HashSpreads.f (k : Nat) (a0 : Int) (a1 : Int) : Option (Bool) := (trestlelaw04_fixed.f).bind fun t201 => (if t201 = true then (trestlelaw04_HashSpreads.l0 k a0 a1 2 0) else (some false))
theorem trestlelaw04_HashSpreads.mono_l : ∀ k, (∀ y0 y1, LeO (trestlelaw04_HashSpreads.j1 k y0 y1) (trestlelaw04_HashSpreads.j1 (k + 1) y0 y1)) ∧ (∀ y0 y1 y2, LeO (trestlelaw04_HashSpreads.j2 k y0 y1 y2) (trestlelaw04_HashSpreads.j2 (k + 1) y0 y1 y2)) ∧ (∀ y0 y1, LeO (trestlelaw04_HashSpreads.j3 k y0 y1) (trestlelaw04_HashSpreads.j3 (k + 1) y0 y1)) ∧ (∀ y0 y1 y2, LeO (trestlelaw04_HashSpreads.j4 k y0 y1 y2) (trestlelaw04_HashSpreads.j4 (k + 1) y0 y1 y2)) ∧ (∀ y0 y1 y2 y3 y4, LeO (trestlelaw04_HashSpreads.l1 k y0 y1 y2 y3 y4) (trestlelaw04_HashSpreads.l1 (k + 1) y0 y1 y2 y3 y4)) ∧ (∀ y0 y1 y2 y3 y4 y5, LeO (trestlelaw04_HashSpreads.j6 k y0 y1 y2 y3 y4 y5) (trestlelaw04_HashSpreads.j6 (k + 1) y0 y1 y2 y3 y4 y5)) ∧ (∀ y0 y1 y2 y3, LeO (trestlelaw04_HashSpreads.l0 k y0 y1 y2 y3) (trestlelaw04_HashSpreads.l0 (k + 1) y0 y1 y2 y3))
  | 0 => ⟨fun _ _ r h => by simp [trestlelaw04_HashSpreads.j1] at h, fun _ _ _ r h => by simp [trestlelaw04_HashSpreads.j2] at h, fun _ _ r h => by simp [trestlelaw04_HashSpreads.j3] at h, fun _ _ _ r h => by simp [trestlelaw04_HashSpreads.j4] at h, fun _ _ _ _ _ r h => by simp [trestlelaw04_HashSpreads.l1] at h, fun _ _ _ _ _ _ r h => by simp [trestlelaw04_HashSpreads.j6] at h, fun _ _ _ _ r h => by simp [trestlelaw04_HashSpreads.l0] at h⟩
  | k + 1 => by
    obtain ⟨ih0, ih1, ih2, ih3, ih4, ih5, ih6⟩ := trestlelaw04_HashSpreads.mono_l k
    refine ⟨?_, ?_, ?_, ?_, ?_, ?_, ?_⟩
    · intro y0 y1
      unfold trestlelaw04_HashSpreads.j1
      repeat' first
      | (with_reducible exact ih0 _ _)
      | (with_reducible exact ih1 _ _ _)
      | (with_reducible exact ih2 _ _)
      | (with_reducible exact ih3 _ _ _)
      | (with_reducible exact ih4 _ _ _ _ _)
      | (with_reducible exact ih5 _ _ _ _ _ _)
      | (with_reducible exact ih6 _ _ _ _)
      | (with_reducible exact hash_Row.mono _ _ _ _)
      | (with_reducible exact LeO.refl _)
      | (with_reducible exact LeO.none _)
      | (with_reducible refine LeO.ite ?_ ?_)
      | (with_reducible refine LeO.bind ?_ (fun _ => ?_))
      | exact ih0 _ _
      | exact ih1 _ _ _
      | exact ih2 _ _
      | exact ih3 _ _ _
      | exact ih4 _ _ _ _ _
      | exact ih5 _ _ _ _ _ _
      | exact ih6 _ _ _ _
      | exact hash_Row.mono _ _ _ _
      | exact LeO.none _
      | refine LeO.ite ?_ ?_
      | refine LeO.bind ?_ (fun _ => ?_)
    · intro y0 y1 y2
      unfold trestlelaw04_HashSpreads.j2
      repeat' first
      | (with_reducible exact ih0 _ _)
      | (with_reducible exact ih1 _ _ _)
      | (with_reducible exact ih2 _ _)
      | (with_reducible exact ih3 _ _ _)
      | (with_reducible exact ih4 _ _ _ _ _)
      | (with_reducible exact ih5 _ _ _ _ _ _)
      | (with_reducible exact ih6 _ _ _ _)
      | (with_reducible exact hash_Row.mono _ _ _ _)
      | (with_reducible exact LeO.refl _)
      | (with_reducible exact LeO.none _)
      | (with_reducible refine LeO.ite ?_ ?_)
      | (with_reducible refine LeO.bind ?_ (fun _ => ?_))
      | exact ih0 _ _
      | exact ih1 _ _ _
      | exact ih2 _ _
      | exact ih3 _ _ _
      | exact ih4 _ _ _ _ _
      | exact ih5 _ _ _ _ _ _
      | exact ih6 _ _ _ _
      | exact hash_Row.mono _ _ _ _
      | exact LeO.none _
      | refine LeO.ite ?_ ?_
      | refine LeO.bind ?_ (fun _ => ?_)
    · intro y0 y1
      unfold trestlelaw04_HashSpreads.j3
      repeat' first
      | (with_reducible exact ih0 _ _)
      | (with_reducible exact ih1 _ _ _)
      | (with_reducible exact ih2 _ _)
      | (with_reducible exact ih3 _ _ _)
      | (with_reducible exact ih4 _ _ _ _ _)
      | (with_reducible exact ih5 _ _ _ _ _ _)
      | (with_reducible exact ih6 _ _ _ _)
      | (with_reducible exact hash_Row.mono _ _ _ _)
      | (with_reducible exact LeO.refl _)
      | (with_reducible exact LeO.none _)
      | (with_reducible refine LeO.ite ?_ ?_)
      | (with_reducible refine LeO.bind ?_ (fun _ => ?_))
      | exact ih0 _ _
      | exact ih1 _ _ _
      | exact ih2 _ _
      | exact ih3 _ _ _
      | exact ih4 _ _ _ _ _
      | exact ih5 _ _ _ _ _ _
      | exact ih6 _ _ _ _
      | exact hash_Row.mono _ _ _ _
      | exact LeO.none _
      | refine LeO.ite ?_ ?_
      | refine LeO.bind ?_ (fun _ => ?_)
    · intro y0 y1 y2
      unfold trestlelaw04_HashSpreads.j4
      repeat' first
      | (with_reducible exact ih0 _ _)
      | (with_reducible exact ih1 _ _ _)
      | (with_reducible exact ih2 _ _)
      | (with_reducible exact ih3 _ _ _)
      | (with_reducible exact ih4 _ _ _ _ _)
      | (with_reducible exact ih5 _ _ _ _ _ _)
      | (with_reducible exact ih6 _ _ _ _)
      | (with_reducible exact hash_Row.mono _ _ _ _)
      | (with_reducible exact LeO.refl _)
      | (with_reducible exact LeO.none _)
      | (with_reducible refine LeO.ite ?_ ?_)
      | (with_reducible refine LeO.bind ?_ (fun _ => ?_))
      | exact ih0 _ _
      | exact ih1 _ _ _
      | exact ih2 _ _
      | exact ih3 _ _ _
      | exact ih4 _ _ _ _ _
      | exact ih5 _ _ _ _ _ _
      | exact ih6 _ _ _ _
      | exact hash_Row.mono _ _ _ _
      | exact LeO.none _
      | refine LeO.ite ?_ ?_
      | refine LeO.bind ?_ (fun _ => ?_)
    · intro y0 y1 y2 y3 y4
      unfold trestlelaw04_HashSpreads.l1
      repeat' first
      | (with_reducible exact ih0 _ _)
      | (with_reducible exact ih1 _ _ _)
      | (with_reducible exact ih2 _ _)
      | (with_reducible exact ih3 _ _ _)
      | (with_reducible exact ih4 _ _ _ _ _)
      | (with_reducible exact ih5 _ _ _ _ _ _)
      | (with_reducible exact ih6 _ _ _ _)
      | (with_reducible exact hash_Row.mono _ _ _ _)
      | (with_reducible exact LeO.refl _)
      | (with_reducible exact LeO.none _)
      | (with_reducible refine LeO.ite ?_ ?_)
      | (with_reducible refine LeO.bind ?_ (fun _ => ?_))
      | exact ih0 _ _
      | exact ih1 _ _ _
      | exact ih2 _ _
      | exact ih3 _ _ _
      | exact ih4 _ _ _ _ _
      | exact ih5 _ _ _ _ _ _
      | exact ih6 _ _ _ _
      | exact hash_Row.mono _ _ _ _
      | exact LeO.none _
      | refine LeO.ite ?_ ?_
      | refine LeO.bind ?_ (fun _ => ?_)
    · intro y0 y1 y2 y3 y4 y5
      unfold trestlelaw04_HashSpreads.j6
      repeat' first
      | (with_reducible exact ih0 _ _)
      | (with_reducible exact ih1 _ _ _)
      | (with_reducible exact ih2 _ _)
      | (with_reducible exact ih3 _ _ _)
      | (with_reducible exact ih4 _ _ _ _ _)
      | (with_reducible exact ih5 _ _ _ _ _ _)
      | (with_reducible exact ih6 _ _ _ _)
      | (with_reducible exact hash_Row.mono _ _ _ _)
      | (with_reducible exact LeO.refl _)
      | (with_reducible exact LeO.none _)
      | (with_reducible refine LeO.ite ?_ ?_)
      | (with_reducible refine LeO.bind ?_ (fun _ => ?_))
      | exact ih0 _ _
      | exact ih1 _ _ _
      | exact ih2 _ _
      | exact ih3 _ _ _
      | exact ih4 _ _ _ _ _
      | exact ih5 _ _ _ _ _ _
      | exact ih6 _ _ _ _
      | exact hash_Row.mono _ _ _ _
      | exact LeO.none _
      | refine LeO.ite ?_ ?_
      | refine LeO.bind ?_ (fun _ => ?_)
    · intro y0 y1 y2 y3
      unfold trestlelaw04_HashSpreads.l0
      repeat' first
      | (with_reducible exact ih0 _ _)
      | (with_reducible exact ih1 _ _ _)
      | (with_reducible exact ih2 _ _)
      | (with_reducible exact ih3 _ _ _)
      | (with_reducible exact ih4 _ _ _ _ _)
      | (with_reducible exact ih5 _ _ _ _ _ _)
      | (with_reducible exact ih6 _ _ _ _)
      | (with_reducible exact hash_Row.mono _ _ _ _)
      | (with_reducible exact LeO.refl _)
      | (with_reducible exact LeO.none _)
      | (with_reducible refine LeO.ite ?_ ?_)
      | (with_reducible refine LeO.bind ?_ (fun _ => ?_))
      | exact ih0 _ _
      | exact ih1 _ _ _
      | exact ih2 _ _
      | exact ih3 _ _ _
      | exact ih4 _ _ _ _ _
      | exact ih5 _ _ _ _ _ _
      | exact ih6 _ _ _ _
      | exact hash_Row.mono _ _ _ _
      | exact LeO.none _
      | refine LeO.ite ?_ ?_
      | refine LeO.bind ?_ (fun _ => ?_)
theorem trestlelaw04_HashSpreads.mono : ∀ a0 a1 k, LeO (trestlelaw04_HashSpreads.f k a0 a1) (trestlelaw04_HashSpreads.f (k + 1) a0 a1) := by
  intro a0 a1 k
  obtain ⟨ih0, ih1, ih2, ih3, ih4, ih5, ih6⟩ := trestlelaw04_HashSpreads.mono_l k
  unfold trestlelaw04_HashSpreads.f
  repeat' first
      | (with_reducible exact ih0 _ _)
      | (with_reducible exact ih1 _ _ _)
      | (with_reducible exact ih2 _ _)
      | (with_reducible exact ih3 _ _ _)
      | (with_reducible exact ih4 _ _ _ _ _)
      | (with_reducible exact ih5 _ _ _ _ _ _)
      | (with_reducible exact ih6 _ _ _ _)
      | (with_reducible exact hash_Row.mono _ _ _ _)
      | (with_reducible exact LeO.refl _)
      | (with_reducible exact LeO.none _)
      | (with_reducible refine LeO.ite ?_ ?_)
      | (with_reducible refine LeO.bind ?_ (fun _ => ?_))
      | exact ih0 _ _
      | exact ih1 _ _ _
      | exact ih2 _ _
      | exact ih3 _ _ _
      | exact ih4 _ _ _ _ _
      | exact ih5 _ _ _ _ _ _
      | exact ih6 _ _ _ _
      | exact hash_Row.mono _ _ _ _
      | exact LeO.none _
      | refine LeO.ite ?_ ?_
      | refine LeO.bind ?_ (fun _ => ?_)
set_option maxHeartbeats 8000000 in
set_option maxRecDepth 100000 in
theorem trestlelaw04_HashSpreads.calls (k : Nat) (a0 : Int) (a1 : Int) (r : Bool) (w : World) (h : trestlelaw04_HashSpreads.f k a0 a1 = some r) :
    Calls Try.prog 11 #[.int .i64 a0, .int .i64 a1] w fun e w' => e = .returned (.bool r) ∧ Below w.heap.size w w' := by
  have HB := Aside0.mk (Below.refl w.heap.size w)
  have H : ((trestlelaw04_fixed.f).bind fun t201 => (if t201 = true then (trestlelaw04_HashSpreads.l0 k a0 a1 2 0) else (some false))) = some r := h
  clear h
  replace H := Option.bind_eq_some_iff.mp H
  obtain ⟨t201, A30, H⟩ := H
  replace H : (if t201 = true then (trestlelaw04_HashSpreads.l0 k a0 a1 2 0) else (some false)) = some r := H
  have A3 := Aside0.mk A30
  clear A30
  by_cases c4 : t201 = true
  · subst c4
    have H1 : (trestlelaw04_HashSpreads.l0 k a0 a1 2 0) = some r := by rw [if_pos rfl] at H; exact H
    clear H
    have H := H1
    clear H1
    have HC5 := Aside0.mk H
    clear H
    go_enter Try.func11, Try.ntmps11
    go_upto_block 0 with (first | ((with_reducible refine gate_callee (f := 25) rfl ?_); refine goesL_ (some 12) rfl rfl Try.func25 (by kernel_rfl) rfl #[] rfl (by (try simp only [List.map_toArray, List.map_cons, List.map_nil]); first | done | rfl | (simp only [List.length_drop, List.length_take]; rfl)) ?_; (with_reducible refine (trestlelaw04_fixed.calls  true _ A3.out).mono ?_); rintro e w6 ⟨rfl, hb⟩; refine ⟨_, rfl, ?_⟩; have n0_ := Aside0.mk (below_step (by repeat (first | (with_reducible first | exact HB.out | apply below_alloc | apply pw_below_drewN | apply below_drew1) | exact HB.out)) hb); clear HB; have HB := n0_; clear n0_; (try clear hb); (try clear hb2); (try clear hk); (try clear hi)))
    (try simp only [Act.put, List.setIfInBounds_toArray, List.set_cons_zero, List.set_cons_succ])
    go_cut [5] (fun v5 wc => ∃ (kq : Nat) (x5_4 : Int), v5 = .int .i64 x5_4 ∧ Aside0 (trestlelaw04_HashSpreads.j1 kq a0 x5_4 = some r) ∧ Aside0 (kq ≤ k) ∧ Aside0 (Below w.heap.size w wc))
    case first =>
      have H := HC5.out
      clear HC5
      have H' := Aside0.mk H
      clear H
      go_wp2
      go_loopg [5, 6] k (fun kq v5 v6 w' => ∃ (x5_1 : Int) (x6_1 : Int), v5 = .int .i64 x5_1 ∧ v6 = .int .i64 x6_1 ∧ Aside0 (trestlelaw04_HashSpreads.l0 kq a0 a1 x5_1 x6_1 = some r) ∧ Aside0 (kq ≤ k) ∧ Aside0 (Below w.heap.size w w'))
      case atStart => exact ⟨(2), (0), (by first | rfl | (simp; done) | (simp [*]; done)), (by first | rfl | (simp; done) | (simp [*]; done)), H', ⟨Nat.le_refl _⟩, ⟨by repeat (first | (with_reducible first | exact HB.out | apply below_alloc | apply pw_below_drewN | apply below_drew1) | exact HB.out)⟩⟩
      case round =>
        clear H'
        try clear c1
        try clear c2
        try clear p2
        try clear c4
        obtain ⟨x5_1, x6_1, rfl, rfl, HA, HK1, HB⟩ := hrel
        cases gk with
        | zero => exact absurd HA.out (by simp [trestlelaw04_HashSpreads.l0])
        | succ k1 =>
          have H := HA.out
          clear HA
          simp only [trestlelaw04_HashSpreads.l0] at H
          by_cases c7 : x6_1 < a1
          · rw [if_pos c7] at H
            have c7b0 : decide (x6_1 < a1) = true := decide_eq_true c7
            clear c7
            (first | rw [c7b0] | (simp only [i64_w, i32_w]; rw [c7b0]) | skip)
            by_cases c8 : x5_1 < 512
            · rw [if_pos c8] at H
              have c8b0 : decide (x5_1 < 512) = true := decide_eq_true c8
              clear c8
              have H' := Aside0.mk H
              clear H
              go_wp2
              go_roundg k1
              case measure => have := HK1.out; omega
              case rel => exact ⟨(wrap64 (x5_1 * 2)), (wrap64 (x6_1 + 1)), (by first | rfl | (simp; done) | (simp [*]; done)), (by first | rfl | (simp; done) | (simp [*]; done)), H', ⟨by have := HK1.out; omega⟩, ⟨by repeat (first | (with_reducible first | exact HB.out | apply below_alloc | apply pw_below_drewN | apply below_drew1) | exact HB.out)⟩⟩
            · rw [if_neg c8] at H
              have c8b0 : decide (x5_1 < 512) = false := decide_eq_false c8
              clear c8
              have H' := Aside0.mk H
              clear H
              go_wp2
              go_meet
              case rel => exact ⟨_, (x5_1), (by first | rfl | (simp; done) | (simp [*]; done)), H', ⟨by have := HK1.out; first | omega | exact Nat.le_refl _⟩, ⟨by repeat (first | (with_reducible first | exact HB.out | apply below_alloc | apply pw_below_drewN | apply below_drew1) | exact HB.out)⟩⟩
          · rw [if_neg c7] at H
            have c7b0 : decide (x6_1 < a1) = false := decide_eq_false c7
            clear c7
            (first | rw [c7b0] | (simp only [i64_w, i32_w]; rw [c7b0]) | skip)
            have H' := Aside0.mk H
            clear H
            go_wp2
            go_meet
            case rel => exact ⟨_, (x5_1), (by first | rfl | (simp; done) | (simp [*]; done)), H', ⟨by have := HK1.out; first | omega | exact Nat.le_refl _⟩, ⟨by repeat (first | (with_reducible first | exact HB.out | apply below_alloc | apply pw_below_drewN | apply below_drew1) | exact HB.out)⟩⟩
    case rest =>
      clear HC5
      try clear c1
      try clear c2
      try clear p2
      try clear c4
      try clear p6
      try clear c7
      try clear c7b0
      try clear c8
      try clear c8b0
      try clear p2
      obtain ⟨kq, x5_4, rfl, HA, HJ4, HB⟩ := hcut
      cases kq with
      | zero => exact absurd HA.out (by simp [trestlelaw04_HashSpreads.j1])
      | succ kj4 =>
        have H := HA.out
        clear HA
        simp only [trestlelaw04_HashSpreads.j1] at H
        have HC9 := Aside0.mk H
        clear H
        go_upto_region 8 with (fail)
        go_cut [38] (fun v38 wc => ∃ (kq : Nat) (x38_8 : Bool), v38 = .bool x38_8 ∧ Aside0 (trestlelaw04_HashSpreads.j2 kq a0 x5_4 x38_8 = some r) ∧ Aside0 (kq ≤ kj4) ∧ Aside0 (Below w.heap.size w wc))
        case first =>
          have H := HC9.out
          clear HC9
          by_cases c10 : a0 < 0
          · rw [if_pos c10] at H
            have c10b0 : decide (a0 < 0) = true := decide_eq_true c10
            clear c10
            (first | rw [c10b0] | (simp only [i64_w, i32_w]; rw [c10b0]) | skip)
            by_cases c11 : a0 > (wrap64 (-x5_4))
            · rw [if_pos c11] at H
              have c11b0 : decide ((wrap64 (-x5_4)) < a0) = true := decide_eq_true c11
              clear c11
              have H' := Aside0.mk H
              clear H
              go_wp2
              go_meet
              case rel => exact ⟨_, (true), (by first | rfl | (simp; done) | (simp [*]; done)), H', ⟨by have := HJ4.out; first | omega | exact Nat.le_refl _⟩, ⟨by repeat (first | (with_reducible first | exact HB.out | apply below_alloc | apply pw_below_drewN | apply below_drew1) | exact HB.out)⟩⟩
            · rw [if_neg c11] at H
              have c11b0 : decide ((wrap64 (-x5_4)) < a0) = false := decide_eq_false c11
              clear c11
              have H' := Aside0.mk H
              clear H
              go_wp2
              go_meet
              case rel => exact ⟨_, (decide (a0 > (wrap64 (9223372036854775807 - x5_4)))), (by first | rfl | (simp; done) | (simp [*]; done)), H', ⟨by have := HJ4.out; first | omega | exact Nat.le_refl _⟩, ⟨by repeat (first | (with_reducible first | exact HB.out | apply below_alloc | apply pw_below_drewN | apply below_drew1) | exact HB.out)⟩⟩
          · rw [if_neg c10] at H
            have c10b0 : decide (a0 < 0) = false := decide_eq_false c10
            clear c10
            (first | rw [c10b0] | (simp only [i64_w, i32_w]; rw [c10b0]) | skip)
            have H' := Aside0.mk H
            clear H
            go_wp2
            go_meet
            case rel => exact ⟨_, (decide (a0 > (wrap64 (9223372036854775807 - x5_4)))), (by first | rfl | (simp; done) | (simp [*]; done)), H', ⟨by have := HJ4.out; first | omega | exact Nat.le_refl _⟩, ⟨by repeat (first | (with_reducible first | exact HB.out | apply below_alloc | apply pw_below_drewN | apply below_drew1) | exact HB.out)⟩⟩
        case rest =>
          clear HC9
          try clear c1
          try clear c2
          try clear p2
          try clear c4
          try clear p6
          try clear c7
          try clear c7b0
          try clear c8
          try clear c8b0
          try clear c10
          try clear c10b0
          try clear c11
          try clear c11b0
          try clear p2
          try clear p6
          obtain ⟨kq, x38_8, rfl, HA, HJ8, HB⟩ := hcut
          cases kq with
          | zero => exact absurd HA.out (by simp [trestlelaw04_HashSpreads.j2])
          | succ kj8 =>
            have H := HA.out
            clear HA
            simp only [trestlelaw04_HashSpreads.j2] at H
            have HC12 := Aside0.mk H
            clear H
            go_upto_if 38 with (fail)
            go_cut [0] (fun v0 wc => ∃ (kq : Nat) (x0_11 : Int), v0 = .int .i64 x0_11 ∧ Aside0 (trestlelaw04_HashSpreads.j3 kq x0_11 x5_4 = some r) ∧ Aside0 (kq ≤ kj8) ∧ Aside0 (Below w.heap.size w wc))
            case first =>
              have H := HC12.out
              clear HC12
              by_cases c13 : x38_8 = true
              · subst c13
                have H1 : (trestlelaw04_HashSpreads.j3 kj8 0 x5_4) = some r := by rw [if_pos rfl] at H; exact H
                clear H
                have H := H1
                clear H1
                have H' := Aside0.mk H
                clear H
                go_wp2
                go_meet
                case rel => exact ⟨_, (0), (by first | rfl | (simp; done) | (simp [*]; done)), H', ⟨by have := HJ4.out; have := HJ8.out; first | omega | exact Nat.le_refl _⟩, ⟨by repeat (first | (with_reducible first | exact HB.out | apply below_alloc | apply pw_below_drewN | apply below_drew1) | exact HB.out)⟩⟩
              · replace c13 := Bool.eq_false_iff.mpr c13
                subst c13
                have H1 : (trestlelaw04_HashSpreads.j3 kj8 a0 x5_4) = some r := by rw [if_neg (show ¬ (false = true) by decide)] at H; exact H
                clear H
                have H := H1
                clear H1
                have H' := Aside0.mk H
                clear H
                go_wp2
                go_meet
                case rel => exact ⟨_, (a0), (by first | rfl | (simp; done) | (simp [*]; done)), H', ⟨by have := HJ4.out; have := HJ8.out; first | omega | exact Nat.le_refl _⟩, ⟨by repeat (first | (with_reducible first | exact HB.out | apply below_alloc | apply pw_below_drewN | apply below_drew1) | exact HB.out)⟩⟩
            case rest =>
              clear HC12
              try clear c1
              try clear c2
              try clear p2
              try clear c4
              try clear p6
              try clear c7
              try clear c7b0
              try clear c8
              try clear c8b0
              try clear c10
              try clear c10b0
              try clear c11
              try clear c11b0
              try clear c13
              try clear p2
              try clear p6
              obtain ⟨kq, x0_11, rfl, HA, HJ11, HB⟩ := hcut
              cases kq with
              | zero => exact absurd HA.out (by simp [trestlelaw04_HashSpreads.j3])
              | succ kj11 =>
                have H := HA.out
                clear HA
                simp only [trestlelaw04_HashSpreads.j3] at H
                replace H := Option.bind_eq_some_iff.mp H
                obtain ⟨⟨t202, t203⟩, A140, H⟩ := H
                replace H : (if t203 = 0 then (trestlelaw04_HashSpreads.j4 kj11 x5_4 t202 ((t202.length : Int) != x5_4)) else (trestlelaw04_HashSpreads.j4 kj11 x5_4 t202 true)) = some r := H
                have A14 := Aside0.mk A140
                clear A140
                have HC15 := Aside0.mk H
                clear H
                go_upto_region 11 with (first | ((with_reducible refine gate_callee (f := 40) rfl ?_); refine goesL_ (some 43) rfl rfl Try.func40 (by kernel_rfl) rfl #[.int .i64 x0_11, .int .i64 x5_4, .int .i64 x5_4] rfl (by (try simp only [List.map_toArray, List.map_cons, List.map_nil]); first | done | rfl | (simp only [List.length_drop, List.length_take]; rfl)) ?_; (with_reducible refine (hash_Row.calls kj11 x0_11 x5_4 x5_4 t202 t203 _ A14.out).mono ?_); rintro e w16 ⟨v204, rfl, ho0, hb⟩; refine ⟨_, rfl, ?_⟩; have n0_ := Aside0.mk (Kd.R_lower ho0 (below_size (by repeat (first | (with_reducible first | exact HB.out | apply below_alloc | apply pw_below_drewN | apply below_drew1) | exact HB.out)))); have n1_ := Aside0.mk (below_step (by repeat (first | (with_reducible first | exact HB.out | apply below_alloc | apply pw_below_drewN | apply below_drew1) | exact HB.out)) hb); clear HB; have HO205 := n0_; have HB := n1_; clear n0_ n1_; (try clear hb); (try clear hb2); (try clear hk); (try clear hi); (try clear ho0)))
                (try simp only [Act.put, List.setIfInBounds_toArray, List.set_cons_zero, List.set_cons_succ])
                go_cut [53] (fun v53 wc => ∃ (kq : Nat) (x53_14 : Bool), v53 = .bool x53_14 ∧ Aside0 (trestlelaw04_HashSpreads.j4 kq x5_4 t202 x53_14 = some r) ∧ Aside0 (kq ≤ kj11) ∧ Aside0 (Kd.R (Kd.int .i64) 3 wc w.heap.size (fun _ => True) v204 t202) ∧ Aside0 (Below w.heap.size w wc))
                case first =>
                  have H := HC15.out
                  clear HC15
                  by_cases c17 : t203 = 0
                  · rw [if_pos c17] at H
                    have c17b0 : (t203 == 0) = true := beq_iff_eq.mpr c17
                    have c17b1 : (t203 != 0) = false := bne_eq_false_iff_eq.mpr c17
                    clear c17
                    (first | rw [c17b0] | (simp only [i64_w, i32_w]; rw [c17b0]) | skip)
                    have H' := Aside0.mk H
                    clear H
                    obtain ⟨Ao18, co18, eo18⟩ := Kd.R_slice HO205.out
                    subst eo18
                    go_wp2
                    go_meet
                    case rel => exact ⟨_, (((t202.length : Int) != x5_4)), (by first | rfl | (simp; done) | (simp [*]; done)), H', ⟨by have := HJ4.out; have := HJ8.out; have := HJ11.out; first | omega | exact Nat.le_refl _⟩, ⟨by (with_reducible repeat (first | apply Kd.R_alloc | apply Kd.R_drewN | apply Kd.R_drew)); exact HO205.out⟩, ⟨by repeat (first | (with_reducible first | exact HB.out | apply below_alloc | apply pw_below_drewN | apply below_drew1) | exact HB.out)⟩⟩
                  · rw [if_neg c17] at H
                    have c17b0 : (t203 == 0) = false := beq_eq_false_iff_ne.mpr c17
                    have c17b1 : (t203 != 0) = true := bne_iff_ne.mpr c17
                    (first | rw [c17b0] | (simp only [i64_w, i32_w]; rw [c17b0]) | skip)
                    have H' := Aside0.mk H
                    clear H
                    go_wp2
                    go_meet
                    case rel => exact ⟨_, (true), (by first | rfl | (simp; done) | (simp [*]; done)), H', ⟨by have := HJ4.out; have := HJ8.out; have := HJ11.out; first | omega | exact Nat.le_refl _⟩, ⟨by (with_reducible repeat (first | apply Kd.R_alloc | apply Kd.R_drewN | apply Kd.R_drew)); exact HO205.out⟩, ⟨by repeat (first | (with_reducible first | exact HB.out | apply below_alloc | apply pw_below_drewN | apply below_drew1) | exact HB.out)⟩⟩
                case rest =>
                  clear HC15
                  try clear c1
                  try clear c2
                  try clear p2
                  try clear c4
                  try clear p6
                  try clear c7
                  try clear c7b0
                  try clear c8
                  try clear c8b0
                  try clear c10
                  try clear c10b0
                  try clear c11
                  try clear c11b0
                  try clear c13
                  try clear c17
                  try clear c17b0
                  try clear c17b1
                  try clear p2
                  try clear p6
                  obtain ⟨kq, x53_14, rfl, HA, HJ14, HO_7, HB⟩ := hcut
                  cases kq with
                  | zero => exact absurd HA.out (by simp [trestlelaw04_HashSpreads.j4])
                  | succ kj14 =>
                    have H := HA.out
                    clear HA
                    simp only [trestlelaw04_HashSpreads.j4] at H
                    by_cases c19 : x53_14 = true
                    · subst c19
                      have H1 : (some false) = some r := by rw [if_pos rfl] at H; exact H
                      clear H
                      have H := H1
                      clear H1
                      obtain rfl := Option.some.inj H
                      go_wp2
                      go_ret
                      exact ⟨by first | rfl | (simp [errW_none, errW_some] <;> rfl) | (simp [*, errW_none, errW_some] <;> rfl), by repeat (first | (with_reducible first | exact HB.out | apply below_alloc | apply pw_below_drewN | apply below_drew1) | exact HB.out)⟩
                    · replace c19 := Bool.eq_false_iff.mpr c19
                      subst c19
                      have H1 : (if 0 ≤ x5_4 then (if (x5_4 : Int).toNat ≤ 281474976710656 then (trestlelaw04_HashSpreads.l1 kj14 x5_4 t202 (List.replicate (x5_4 : Int).toNat false) 0 0) else (none)) else (none)) = some r := by rw [if_neg (show ¬ (false = true) by decide)] at H; exact H
                      clear H
                      have H := H1
                      clear H1
                      by_cases c20 : 0 ≤ x5_4
                      · rw [if_pos c20] at H
                        have c20b0 := eq_true c20
                        have c20b1 : decide (0 ≤ x5_4) = true := decide_eq_true c20
                        clear c20
                        by_cases c21 : (x5_4 : Int).toNat ≤ 281474976710656
                        · rw [if_pos c21] at H
                          have c21b0 := eq_true c21
                          have c21b1 : decide ((x5_4 : Int).toNat ≤ 281474976710656) = true := decide_eq_true c21
                          clear c21
                          obtain ⟨y206, hy206⟩ : ∃ y_ : List Bool, y_ = (List.replicate (x5_4 : Int).toNat false) := ⟨_, rfl⟩
                          replace H : (trestlelaw04_HashSpreads.l1 kj14 x5_4 t202 y206 0 0) = some r := by first | (rw [hy206]; with_reducible exact H) | (have H2_ := (Option.bind_some _ _).symm.trans H; rw [hy206]; with_reducible exact H2_) | (have H2_ := (Option.bind_some _ _).symm.trans H; with_reducible exact H2_) | with_reducible exact H | (rw [hy206]; exact H) | exact H
                          have Ny206 := Aside0.mk hy206
                          clear hy206
                          have H' := Aside0.mk H
                          clear H
                          go_wp2_with (first | ((with_reducible refine gate_dst (N := 55) rfl ?_); (try (refine gate_guard (by rfl) ?_; dsimp only)); refine Kd.R_make Kd.bool _ 4 rfl (N := 55) rfl 54 _ _ rfl x5_4 rfl rfl Try.underlying54 (.bool false) 1 info4 rfl (by decide) (by omega) false (ok := fun _ => True) (okp := fun _ => True) rfl (fun _ hk => hk) trivial (of_decide_eq_true (by first | (with_reducible assumption) | assumption)) (Nat.le_trans (Nat.mul_le_mul_right _ (of_decide_eq_true (by first | (with_reducible assumption) | assumption) : x5_4.toNat ≤ 281474976710656)) (by omega)) (Below.refl _ _) (Nat.le_refl _) ?_; intro v207 w22 ho23 hb hg_ hnew_; clear hg_ hnew_; (first | rw [← Ny206.out] at ho23 | (simp only [Int.reduceToNat] at ho23; rw [← Ny206.out] at ho23)); have n0_ := Aside0.mk (Kd.R_below (by (with_reducible repeat (first | apply Kd.R_alloc | apply Kd.R_drewN | apply Kd.R_drew)); exact HO_7.out) hb); have n1_ := Aside0.mk (Kd.R_lower ho23 (below_size (by repeat (first | (with_reducible first | exact HB.out | apply below_alloc | apply pw_below_drewN | apply below_drew1) | exact HB.out)))); have n2_ := Aside0.mk (below_step (by repeat (first | (with_reducible first | exact HB.out | apply below_alloc | apply pw_below_drewN | apply below_drew1) | exact HB.out)) hb); clear HO_7; clear HB; have HO_7 := n0_; have HO208 := n1_; have HB := n2_; clear n0_ n1_ n2_; clear hb ho23))
                          go_loopg [10, 11] kj14 (fun kq v10 v11 w' => ∃ (x9_5 : List Bool) (x10_5 : Int) (x11_5 : Int), v10 = .int .i64 x10_5 ∧ v11 = .int .i64 x11_5 ∧ Aside0 (trestlelaw04_HashSpreads.l1 kq x5_4 t202 x9_5 x10_5 x11_5 = some r) ∧ Aside0 (kq ≤ kj14) ∧ Aside0 (Kd.R (Kd.int .i64) 3 w' w.heap.size (fun _ => True) v204 t202) ∧ Aside0 (Kd.R Kd.bool 4 w' w.heap.size (fun _ => True) v207 x9_5) ∧ Aside0 (Below w.heap.size w w'))
                          case atStart => exact ⟨(y206), (0), (0), (by first | rfl | (simp; done) | (simp [*]; done)), (by first | rfl | (simp; done) | (simp [*]; done)), H', ⟨Nat.le_refl _⟩, ⟨by (with_reducible repeat (first | apply Kd.R_alloc | apply Kd.R_drewN | apply Kd.R_drew)); exact HO_7.out⟩, ⟨by (with_reducible repeat (first | apply Kd.R_alloc | apply Kd.R_drewN | apply Kd.R_drew)); exact HO208.out⟩, ⟨by repeat (first | (with_reducible first | exact HB.out | apply below_alloc | apply pw_below_drewN | apply below_drew1) | exact HB.out)⟩⟩
                          case round =>
                            clear H'
                            try clear c1
                            try clear c2
                            try clear p2
                            try clear c4
                            try clear p6
                            try clear c7
                            try clear c7b0
                            try clear c8
                            try clear c8b0
                            try clear c10
                            try clear c10b0
                            try clear c11
                            try clear c11b0
                            try clear c13
                            try clear c17
                            try clear c17b0
                            try clear c17b1
                            try clear c19
                            try clear c20
                            try clear c20b0
                            try clear c20b1
                            try clear c21
                            try clear c21b0
                            try clear c21b1
                            try clear p2
                            try clear p6
                            obtain ⟨x9_5, x10_5, x11_5, rfl, rfl, HA, HK5, HO_7, HO_9, HB⟩ := hrel
                            cases gk with
                            | zero => exact absurd HA.out (by simp [trestlelaw04_HashSpreads.l1])
                            | succ k5 =>
                              have H := HA.out
                              clear HA
                              simp only [trestlelaw04_HashSpreads.l1] at H
                              by_cases c24 : x11_5 < (t202.length : Int)
                              · rw [if_pos c24] at H
                                have c24b0 : decide (x11_5 < (t202.length : Int)) = true := decide_eq_true c24
                                clear c24
                                have HC25 := Aside0.mk H
                                clear H
                                obtain ⟨Ao26, co26, eo26⟩ := Kd.R_slice HO_7.out
                                subst eo26
                                go_upto_region 18 with (fail)
                                go_cut [74] (fun v74 wc => ∃ (kq : Nat) (x74_24 : Bool), v74 = .bool x74_24 ∧ Aside0 (trestlelaw04_HashSpreads.j6 kq x5_4 t202 x9_5 x10_5 x11_5 x74_24 = some r) ∧ Aside0 (kq ≤ k5) ∧ Aside0 (Kd.R (Kd.int .i64) 3 wc w.heap.size (fun _ => True) (.slice Ao26 t202.length co26) t202) ∧ Aside0 (Kd.R Kd.bool 4 wc w.heap.size (fun _ => True) v207 x9_5) ∧ Aside0 (Below w.heap.size w wc))
                                case first =>
                                  have H := HC25.out
                                  clear HC25
                                  by_cases c27 : 0 ≤ x11_5
                                  · rw [if_pos c27] at H
                                    have c27b0 : decide (0 ≤ x11_5) = true := decide_eq_true c27
                                    clear c27
                                    (first | rw [c27b0] | (simp only [i64_w, i32_w]; rw [c27b0]) | skip)
                                    by_cases c28 : (rd t202 x11_5) < 0
                                    · rw [if_pos c28] at H
                                      have c28b0 : decide ((rd t202 x11_5) < 0) = true := decide_eq_true c28
                                      clear c28
                                      have H' := Aside0.mk H
                                      clear H
                                      have p209 : 0 ≤ (x11_5 : Int) := of_decide_eq_true (by first | (with_reducible assumption) | assumption)
                                      have q209 : x11_5 < (t202.length : Int) := of_decide_eq_true (by first | (with_reducible assumption) | assumption)
                                      obtain ⟨ad209, e209, hx209_0⟩ := Kd.at_int (Kd.R_reads' HO_7.out).2.2 x11_5 p209 q209
                                      cases e209
                                      replace p209 := eq_true p209
                                      replace q209 := eq_true q209
                                      go_wp2
                                      go_meet
                                      case rel => exact ⟨_, (true), (by first | rfl | (simp; done) | (simp [*]; done)), H', ⟨by have := HJ4.out; have := HJ8.out; have := HJ11.out; have := HJ14.out; have := HK5.out; first | omega | exact Nat.le_refl _⟩, ⟨by (with_reducible repeat (first | apply Kd.R_alloc | apply Kd.R_drewN | apply Kd.R_drew)); exact HO_7.out⟩, ⟨by (with_reducible repeat (first | apply Kd.R_alloc | apply Kd.R_drewN | apply Kd.R_drew)); exact HO_9.out⟩, ⟨by repeat (first | (with_reducible first | exact HB.out | apply below_alloc | apply pw_below_drewN | apply below_drew1) | exact HB.out)⟩⟩
                                    · rw [if_neg c28] at H
                                      have c28b0 : decide ((rd t202 x11_5) < 0) = false := decide_eq_false c28
                                      clear c28
                                      have H' := Aside0.mk H
                                      clear H
                                      have p209 : 0 ≤ (x11_5 : Int) := of_decide_eq_true (by first | (with_reducible assumption) | assumption)
                                      have q209 : x11_5 < (t202.length : Int) := of_decide_eq_true (by first | (with_reducible assumption) | assumption)
                                      obtain ⟨ad209, e209, hx209_0⟩ := Kd.at_int (Kd.R_reads' HO_7.out).2.2 x11_5 p209 q209
                                      cases e209
                                      replace p209 := eq_true p209
                                      replace q209 := eq_true q209
                                      have p210 : 0 ≤ (x11_5 : Int) := of_decide_eq_true (by first | (with_reducible assumption) | assumption)
                                      have q210 : x11_5 < (t202.length : Int) := of_decide_eq_true (by first | (with_reducible assumption) | assumption)
                                      obtain ⟨ad210, e210, hx210_0⟩ := Kd.at_int (Kd.R_reads' HO_7.out).2.2 x11_5 p210 q210
                                      obtain rfl : ad209 = ad210 := (by injection e210)
                                      replace p210 := eq_true p210
                                      replace q210 := eq_true q210
                                      go_wp2
                                      go_meet
                                      case rel => exact ⟨_, (decide ((rd t202 x11_5) ≥ x5_4)), (by first | rfl | (simp; done) | (simp [*]; done)), H', ⟨by have := HJ4.out; have := HJ8.out; have := HJ11.out; have := HJ14.out; have := HK5.out; first | omega | exact Nat.le_refl _⟩, ⟨by (with_reducible repeat (first | apply Kd.R_alloc | apply Kd.R_drewN | apply Kd.R_drew)); exact HO_7.out⟩, ⟨by (with_reducible repeat (first | apply Kd.R_alloc | apply Kd.R_drewN | apply Kd.R_drew)); exact HO_9.out⟩, ⟨by repeat (first | (with_reducible first | exact HB.out | apply below_alloc | apply pw_below_drewN | apply below_drew1) | exact HB.out)⟩⟩
                                  · rw [if_neg c27] at H
                                    exact absurd H (by simp)
                                case rest =>
                                  clear HC25
                                  try clear c1
                                  try clear c2
                                  try clear p2
                                  try clear q2
                                  try clear hx2
                                  try clear c4
                                  try clear p6
                                  try clear c7
                                  try clear c7b0
                                  try clear c8
                                  try clear c8b0
                                  try clear c10
                                  try clear c10b0
                                  try clear c11
                                  try clear c11b0
                                  try clear c13
                                  try clear c17
                                  try clear c17b0
                                  try clear c17b1
                                  try clear c19
                                  try clear c20
                                  try clear c20b0
                                  try clear c20b1
                                  try clear p20
                                  try clear q20
                                  try clear hx20
                                  try clear c21
                                  try clear c21b0
                                  try clear c21b1
                                  try clear p21
                                  try clear q21
                                  try clear hx21
                                  try clear c24
                                  try clear c24b0
                                  try clear c25
                                  try clear c27
                                  try clear c27b0
                                  try clear c28
                                  try clear c28b0
                                  try clear hx209_0
                                  try clear hx210_0
                                  try clear p2
                                  try clear p209
                                  try clear p210
                                  try clear p6
                                  try clear q209
                                  try clear q210
                                  obtain ⟨kq, x74_24, rfl, HA, HJ24, HO_7, HO_9, HB⟩ := hcut
                                  cases kq with
                                  | zero => exact absurd HA.out (by simp [trestlelaw04_HashSpreads.j6])
                                  | succ kj24 =>
                                    have H := HA.out
                                    clear HA
                                    simp only [trestlelaw04_HashSpreads.j6] at H
                                    by_cases c29 : x74_24 = true
                                    · subst c29
                                      have H1 : (some false) = some r := by rw [if_pos rfl] at H; exact H
                                      clear H
                                      have H := H1
                                      clear H1
                                      obtain rfl := Option.some.inj H
                                      go_wp2
                                      go_ret
                                      exact ⟨by first | rfl | (simp [errW_none, errW_some] <;> rfl) | (simp [*, errW_none, errW_some] <;> rfl), by repeat (first | (with_reducible first | exact HB.out | apply below_alloc | apply pw_below_drewN | apply below_drew1) | exact HB.out)⟩
                                    · replace c29 := Bool.eq_false_iff.mpr c29
                                      subst c29
                                      have H1 : (if 0 ≤ x11_5 then (if x11_5 < (t202.length : Int) then (if 0 ≤ (rd t202 x11_5) then (if (rd t202 x11_5) < (x9_5.length : Int) then (if (rdOf false x9_5 (rd t202 x11_5) = true) then (trestlelaw04_HashSpreads.l1 kj24 x5_4 t202 (x9_5.set ((rd t202 x11_5) : Int).toNat true) x10_5 (wrap64 (x11_5 + 1))) else (trestlelaw04_HashSpreads.l1 kj24 x5_4 t202 (x9_5.set ((rd t202 x11_5) : Int).toNat true) (wrap64 (x10_5 + 1)) (wrap64 (x11_5 + 1)))) else (none)) else (none)) else (none)) else (none)) = some r := by rw [if_neg (show ¬ (false = true) by decide)] at H; exact H
                                      clear H
                                      have H := H1
                                      clear H1
                                      by_cases c30 : 0 ≤ x11_5
                                      · rw [if_pos c30] at H
                                        have c30b0 : decide (0 ≤ x11_5) = true := decide_eq_true c30
                                        clear c30
                                        by_cases c31 : x11_5 < (t202.length : Int)
                                        · rw [if_pos c31] at H
                                          have c31b0 : decide (x11_5 < (t202.length : Int)) = true := decide_eq_true c31
                                          clear c31
                                          by_cases c32 : 0 ≤ (rd t202 x11_5)
                                          · rw [if_pos c32] at H
                                            have c32b0 : decide (0 ≤ (rd t202 x11_5)) = true := decide_eq_true c32
                                            clear c32
                                            by_cases c33 : (rd t202 x11_5) < (x9_5.length : Int)
                                            · rw [if_pos c33] at H
                                              have c33b0 : decide ((rd t202 x11_5) < (x9_5.length : Int)) = true := decide_eq_true c33
                                              clear c33
                                              obtain ⟨bq34, hbq34⟩ : ∃ b_ : Bool, b_ = (rdOf false x9_5 (rd t202 x11_5)) := ⟨_, rfl⟩
                                              replace H : (if (bq34 = true) then (trestlelaw04_HashSpreads.l1 kj24 x5_4 t202 (x9_5.set ((rd t202 x11_5) : Int).toNat true) x10_5 (wrap64 (x11_5 + 1))) else (trestlelaw04_HashSpreads.l1 kj24 x5_4 t202 (x9_5.set ((rd t202 x11_5) : Int).toNat true) (wrap64 (x10_5 + 1)) (wrap64 (x11_5 + 1)))) = some r := by rw [← hbq34] at H; exact H
                                              have Nbq34 := Aside0.mk hbq34
                                              clear hbq34
                                              by_cases c35 : (bq34 = true)
                                              · subst c35
                                                have H1 : (trestlelaw04_HashSpreads.l1 kj24 x5_4 t202 (x9_5.set ((rd t202 x11_5) : Int).toNat true) x10_5 (wrap64 (x11_5 + 1))) = some r := by rw [if_pos rfl] at H; exact H
                                                clear H
                                                have H := H1
                                                clear H1
                                                obtain ⟨y214, hy214⟩ : ∃ y_ : List Bool, y_ = (x9_5.set ((rd t202 x11_5) : Int).toNat true) := ⟨_, rfl⟩
                                                replace H : (trestlelaw04_HashSpreads.l1 kj24 x5_4 t202 y214 x10_5 (wrap64 (x11_5 + 1))) = some r := by first | (rw [hy214]; with_reducible exact H) | (have H2_ := (Option.bind_some _ _).symm.trans H; rw [hy214]; with_reducible exact H2_) | (have H2_ := (Option.bind_some _ _).symm.trans H; with_reducible exact H2_) | with_reducible exact H | (rw [hy214]; exact H) | exact H
                                                have Ny214 := Aside0.mk hy214
                                                clear hy214
                                                have H' := Aside0.mk H
                                                clear H
                                                have p211 : 0 ≤ (x11_5 : Int) := of_decide_eq_true (by first | (with_reducible assumption) | assumption)
                                                have q211 : x11_5 < (t202.length : Int) := of_decide_eq_true (by first | (with_reducible assumption) | assumption)
                                                obtain ⟨ad211, e211, hx211_0⟩ := Kd.at_int (Kd.R_reads' HO_7.out).2.2 x11_5 p211 q211
                                                cases e211
                                                replace p211 := eq_true p211
                                                replace q211 := eq_true q211
                                                obtain ⟨Ao37, co37, eo37⟩ := Kd.R_slice HO_9.out
                                                subst eo37
                                                have p212 : 0 ≤ ((rd t202 x11_5) : Int) := of_decide_eq_true (by first | (with_reducible assumption) | assumption)
                                                have q212 : (rd t202 x11_5) < (x9_5.length : Int) := of_decide_eq_true (by first | (with_reducible assumption) | assumption)
                                                obtain ⟨ad212, e212, hx212_0⟩ := Kd.at_bool (Kd.R_reads' HO_9.out).2.2 (rd t202 x11_5) p212 q212
                                                (try rw [← Nbq34.out] at hx212_0)
                                                cases e212
                                                replace p212 := eq_true p212
                                                replace q212 := eq_true q212
                                                have p213 : 0 ≤ (x11_5 : Int) := of_decide_eq_true (by first | (with_reducible assumption) | assumption)
                                                have q213 : x11_5 < (t202.length : Int) := of_decide_eq_true (by first | (with_reducible assumption) | assumption)
                                                obtain ⟨ad213, e213, hx213_0⟩ := Kd.at_int (Kd.R_reads' HO_7.out).2.2 x11_5 p213 q213
                                                obtain rfl : ad211 = ad213 := (by injection e213)
                                                replace p213 := eq_true p213
                                                replace q213 := eq_true q213
                                                have p36 : 0 ≤ ((rd t202 x11_5) : Int) := of_decide_eq_true (by first | (with_reducible assumption) | assumption)
                                                have q36 : ((rd t202 x11_5) : Int) < ((x9_5.length : Int) : Int) := of_decide_eq_true (by first | (with_reducible assumption) | assumption)
                                                obtain ⟨go36, co36, eo36, gb36, gl36, cl36, HG36⟩ := Kd.R_form HO_9.out (by omega)
                                                (first | cases eo36 | (injection eo36 with ea_ en_ ec_; (first | subst ea_ | (injection ea_ with ea_; subst ea_)); subst ec_; clear en_))
                                                have GB36 := Aside0.mk gb36
                                                have GG36 := Aside0.mk HG36
                                                clear gb36 gl36 HG36
                                                (first | simp only [add_plain] at hx212_0 | skip)
                                                obtain ⟨hx36_0, hf36_0⟩ := Kd.R_celln false HO_9.out ((rd t202 x11_5) : Int) p36 q36
                                                replace p36 := eq_true p36
                                                replace q36 := eq_true q36
                                                have HP38 := Kd.R_putg HO_9.out ((rd t202 x11_5) : Int) true
                                                go_wp2_with (first | ((with_reducible refine gate_store (t := 4) (p := 90) rfl ?_); refine store_event (t := 4) (p := 90) (v := ?vo_w39) (w1 := (wc.setCell ⟨go36, ((rd t202 x11_5) : Int).toNat, none⟩ (.bool true))) ?hg ?ho ?hn ?hr ?_; (case ho => rfl); (case hg => rfl); (case hn => rfl); (case hr => first | (go_simp; done) | (go_simp; rfl)); intro w39 hw; have hg : wc.grownBy w39 (some go36) := (by rw [hw]; exact HP38.2); have hp_ : Kd.R Kd.bool 4 w39 w.heap.size (fun _ => True) (.slice (some ⟨go36, 0, none⟩) x9_5.length co37) y214 := (by rw [hw, Ny214.out]; exact HP38.1); clear HP38; have n0_ := Aside0.mk (Kd.R_over' (v := (.slice (some ⟨go36, 0, none⟩) x9_5.length co37)) (by (with_reducible repeat (first | apply Kd.R_alloc | apply Kd.R_drewN | apply Kd.R_drew)); exact HO_7.out) (Kd.R_typed HO_9.out) (by decide) hg); have n1_ := Aside0.mk (hp_); have n2_ := Aside0.mk ((by rw [hw]; exact below_set (HB.out) GB36.out : Below w.heap.size w w39)); clear HO_7; clear HO_9; clear HB; have HO_7 := n0_; have HO_9 := n1_; have HB := n2_; clear n0_ n1_ n2_; clear hg hw hp_))
                                                go_roundg kj24
                                                case measure => have := HJ4.out; have := HJ8.out; have := HJ11.out; have := HJ14.out; have := HK5.out; have := HJ24.out; omega
                                                case rel => exact ⟨(y214), (x10_5), (wrap64 (x11_5 + 1)), (by first | rfl | (simp; done) | (simp [*]; done)), (by first | rfl | (simp; done) | (simp [*]; done)), H', ⟨by have := HJ4.out; have := HJ8.out; have := HJ11.out; have := HJ14.out; have := HK5.out; have := HJ24.out; omega⟩, ⟨by (with_reducible repeat (first | apply Kd.R_alloc | apply Kd.R_drewN | apply Kd.R_drew)); exact HO_7.out⟩, ⟨by (with_reducible repeat (first | apply Kd.R_alloc | apply Kd.R_drewN | apply Kd.R_drew)); exact HO_9.out⟩, ⟨by repeat (first | (with_reducible first | exact HB.out | apply below_alloc | apply pw_below_drewN | apply below_drew1) | exact HB.out)⟩⟩
                                              · replace c35 := Bool.eq_false_iff.mpr c35
                                                subst c35
                                                have H1 : (trestlelaw04_HashSpreads.l1 kj24 x5_4 t202 (x9_5.set ((rd t202 x11_5) : Int).toNat true) (wrap64 (x10_5 + 1)) (wrap64 (x11_5 + 1))) = some r := by rw [if_neg (show ¬ (false = true) by decide)] at H; exact H
                                                clear H
                                                have H := H1
                                                clear H1
                                                obtain ⟨y216, hy216⟩ : ∃ y_ : List Bool, y_ = (x9_5.set ((rd t202 x11_5) : Int).toNat true) := ⟨_, rfl⟩
                                                replace H : (trestlelaw04_HashSpreads.l1 kj24 x5_4 t202 y216 (wrap64 (x10_5 + 1)) (wrap64 (x11_5 + 1))) = some r := by first | (rw [hy216]; with_reducible exact H) | (have H2_ := (Option.bind_some _ _).symm.trans H; rw [hy216]; with_reducible exact H2_) | (have H2_ := (Option.bind_some _ _).symm.trans H; with_reducible exact H2_) | with_reducible exact H | (rw [hy216]; exact H) | exact H
                                                have Ny216 := Aside0.mk hy216
                                                clear hy216
                                                have H' := Aside0.mk H
                                                clear H
                                                have p211 : 0 ≤ (x11_5 : Int) := of_decide_eq_true (by first | (with_reducible assumption) | assumption)
                                                have q211 : x11_5 < (t202.length : Int) := of_decide_eq_true (by first | (with_reducible assumption) | assumption)
                                                obtain ⟨ad211, e211, hx211_0⟩ := Kd.at_int (Kd.R_reads' HO_7.out).2.2 x11_5 p211 q211
                                                cases e211
                                                replace p211 := eq_true p211
                                                replace q211 := eq_true q211
                                                obtain ⟨Ao41, co41, eo41⟩ := Kd.R_slice HO_9.out
                                                subst eo41
                                                have p212 : 0 ≤ ((rd t202 x11_5) : Int) := of_decide_eq_true (by first | (with_reducible assumption) | assumption)
                                                have q212 : (rd t202 x11_5) < (x9_5.length : Int) := of_decide_eq_true (by first | (with_reducible assumption) | assumption)
                                                obtain ⟨ad212, e212, hx212_0⟩ := Kd.at_bool (Kd.R_reads' HO_9.out).2.2 (rd t202 x11_5) p212 q212
                                                (try rw [← Nbq34.out] at hx212_0)
                                                cases e212
                                                replace p212 := eq_true p212
                                                replace q212 := eq_true q212
                                                have p215 : 0 ≤ (x11_5 : Int) := of_decide_eq_true (by first | (with_reducible assumption) | assumption)
                                                have q215 : x11_5 < (t202.length : Int) := of_decide_eq_true (by first | (with_reducible assumption) | assumption)
                                                obtain ⟨ad215, e215, hx215_0⟩ := Kd.at_int (Kd.R_reads' HO_7.out).2.2 x11_5 p215 q215
                                                obtain rfl : ad211 = ad215 := (by injection e215)
                                                replace p215 := eq_true p215
                                                replace q215 := eq_true q215
                                                have p40 : 0 ≤ ((rd t202 x11_5) : Int) := of_decide_eq_true (by first | (with_reducible assumption) | assumption)
                                                have q40 : ((rd t202 x11_5) : Int) < ((x9_5.length : Int) : Int) := of_decide_eq_true (by first | (with_reducible assumption) | assumption)
                                                obtain ⟨go40, co40, eo40, gb40, gl40, cl40, HG40⟩ := Kd.R_form HO_9.out (by omega)
                                                (first | cases eo40 | (injection eo40 with ea_ en_ ec_; (first | subst ea_ | (injection ea_ with ea_; subst ea_)); subst ec_; clear en_))
                                                have GB40 := Aside0.mk gb40
                                                have GG40 := Aside0.mk HG40
                                                clear gb40 gl40 HG40
                                                (first | simp only [add_plain] at hx212_0 | skip)
                                                obtain ⟨hx40_0, hf40_0⟩ := Kd.R_celln false HO_9.out ((rd t202 x11_5) : Int) p40 q40
                                                replace p40 := eq_true p40
                                                replace q40 := eq_true q40
                                                have HP42 := Kd.R_putg HO_9.out ((rd t202 x11_5) : Int) true
                                                go_wp2_with (first | ((with_reducible refine gate_store (t := 4) (p := 90) rfl ?_); refine store_event (t := 4) (p := 90) (v := ?vo_w43) (w1 := (wc.setCell ⟨go40, ((rd t202 x11_5) : Int).toNat, none⟩ (.bool true))) ?hg ?ho ?hn ?hr ?_; (case ho => rfl); (case hg => rfl); (case hn => rfl); (case hr => first | (go_simp; done) | (go_simp; rfl)); intro w43 hw; have hg : wc.grownBy w43 (some go40) := (by rw [hw]; exact HP42.2); have hp_ : Kd.R Kd.bool 4 w43 w.heap.size (fun _ => True) (.slice (some ⟨go40, 0, none⟩) x9_5.length co41) y216 := (by rw [hw, Ny216.out]; exact HP42.1); clear HP42; have n0_ := Aside0.mk (Kd.R_over' (v := (.slice (some ⟨go40, 0, none⟩) x9_5.length co41)) (by (with_reducible repeat (first | apply Kd.R_alloc | apply Kd.R_drewN | apply Kd.R_drew)); exact HO_7.out) (Kd.R_typed HO_9.out) (by decide) hg); have n1_ := Aside0.mk (hp_); have n2_ := Aside0.mk ((by rw [hw]; exact below_set (HB.out) GB40.out : Below w.heap.size w w43)); clear HO_7; clear HO_9; clear HB; have HO_7 := n0_; have HO_9 := n1_; have HB := n2_; clear n0_ n1_ n2_; clear hg hw hp_))
                                                go_roundg kj24
                                                case measure => have := HJ4.out; have := HJ8.out; have := HJ11.out; have := HJ14.out; have := HK5.out; have := HJ24.out; omega
                                                case rel => exact ⟨(y216), (wrap64 (x10_5 + 1)), (wrap64 (x11_5 + 1)), (by first | rfl | (simp; done) | (simp [*]; done)), (by first | rfl | (simp; done) | (simp [*]; done)), H', ⟨by have := HJ4.out; have := HJ8.out; have := HJ11.out; have := HJ14.out; have := HK5.out; have := HJ24.out; omega⟩, ⟨by (with_reducible repeat (first | apply Kd.R_alloc | apply Kd.R_drewN | apply Kd.R_drew)); exact HO_7.out⟩, ⟨by (with_reducible repeat (first | apply Kd.R_alloc | apply Kd.R_drewN | apply Kd.R_drew)); exact HO_9.out⟩, ⟨by repeat (first | (with_reducible first | exact HB.out | apply below_alloc | apply pw_below_drewN | apply below_drew1) | exact HB.out)⟩⟩
                                            · rw [if_neg c33] at H
                                              exact absurd H (by simp)
                                          · rw [if_neg c32] at H
                                            exact absurd H (by simp)
                                        · rw [if_neg c31] at H
                                          exact absurd H (by simp)
                                      · rw [if_neg c30] at H
                                        exact absurd H (by simp)
                              · rw [if_neg c24] at H
                                have c24b0 : decide (x11_5 < (t202.length : Int)) = false := decide_eq_false c24
                                clear c24
                                obtain rfl := Option.some.inj H
                                obtain ⟨Ao44, co44, eo44⟩ := Kd.R_slice HO_7.out
                                subst eo44
                                go_wp2
                                go_ret
                                exact ⟨by first | rfl | (simp [errW_none, errW_some] <;> rfl) | (simp [*, errW_none, errW_some] <;> rfl), by repeat (first | (with_reducible first | exact HB.out | apply below_alloc | apply pw_below_drewN | apply below_drew1) | exact HB.out)⟩
                        · rw [if_neg c21] at H
                          exact absurd H (by simp)
                      · rw [if_neg c20] at H
                        exact absurd H (by simp)
  · replace c4 := Bool.eq_false_iff.mpr c4
    subst c4
    have H1 : (some false) = some r := by rw [if_neg (show ¬ (false = true) by decide)] at H; exact H
    clear H
    have H := H1
    clear H1
    obtain rfl := Option.some.inj H
    go_enter Try.func11, Try.ntmps11
    go_wp2_with (first | ((with_reducible refine gate_callee (f := 25) rfl ?_); refine goesL_ (some 12) rfl rfl Try.func25 (by kernel_rfl) rfl #[] rfl (by (try simp only [List.map_toArray, List.map_cons, List.map_nil]); first | done | rfl | (simp only [List.length_drop, List.length_take]; rfl)) ?_; (with_reducible refine (trestlelaw04_fixed.calls  false _ A3.out).mono ?_); rintro e w45 ⟨rfl, hb⟩; refine ⟨_, rfl, ?_⟩; have n0_ := Aside0.mk (below_step (by repeat (first | (with_reducible first | exact HB.out | apply below_alloc | apply pw_below_drewN | apply below_drew1) | exact HB.out)) hb); clear HB; have HB := n0_; clear n0_; (try clear hb); (try clear hb2); (try clear hk); (try clear hi)))
    go_ret
    exact ⟨by first | rfl | (simp [errW_none, errW_some] <;> rfl) | (simp [*, errW_none, errW_some] <;> rfl), by repeat (first | (with_reducible first | exact HB.out | apply below_alloc | apply pw_below_drewN | apply below_drew1) | exact HB.out)⟩

/-- THE ONE PURE STATEMENT of trestlelaw04_HashSpreads: yours. -/
def trestlelaw04_HashSpreads.Pure : Prop := ∀ (a0 : Int) (a1 : Int), (Lit.int .i64 a0).wf = true → (Lit.int .i64 a1).wf = true → ∃ k, trestlelaw04_HashSpreads.f k a0 a1 = some true
theorem trestlelaw04_HashSpreads.walk (P : trestlelaw04_HashSpreads.Pure) (a0 : Int) (a1 : Int) (w : World) (w0 : (Lit.int .i64 a0).wf = true) (w1 : (Lit.int .i64 a1).wf = true) :
    Calls Try.prog 11 #[.int .i64 a0, .int .i64 a1] w fun e w' => e = .returned (.bool true) ∧ Below w.heap.size w w' := by
  obtain ⟨k, h⟩ := P a0 a1 w0 w1
  refine (trestlelaw04_HashSpreads.calls k a0 a1 true w h).mono ?_
  rintro e w' ⟨rfl, hd⟩
  exact ⟨rfl, hd⟩

end Go.Proofs.Ytlmmhlabacghnaa.PH
