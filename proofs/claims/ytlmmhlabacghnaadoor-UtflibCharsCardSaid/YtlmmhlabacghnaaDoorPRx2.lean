-- Written by a program of this session's (the kit's print, turned), out of the translation.
import Derived.Test.YtlmmhlabacghnaaDoorPRx0
import Derived.Test.YtlmmhlabacghnaaDoorPRx1
import Derived.Test.YtlmmhlabacghnaaDoorBad
import Derived.Test.YtlmmhlabacghnaaDoorEncode
import Derived.Test.YtlmmhlabacghnaaDoorList
namespace Go.Proofs.YtlmmhlabacghnaaDoor.PR
open Go.RowKit Go.Proofs.YtlmmhlabacghnaaDoorW.PrintWords Go.Proofs.YtlmmhlabacghnaaDoorW.PrintLast Go.Proofs.YtlmmhlabacghnaaDoorW.PrintMore
attribute [local go_sem] max2_int min2_int max_two min_two max_three min_three max_four min_four   -- for this text's walks alone
set_option linter.unusedVariables false
set_option linter.unusedSimpArgs false

attribute [local go_sem high] eqA28
-- BY HAND: function 14 (runes_Encode): YtlmmhlabacghnaaDoorEncode

-- BY HAND: function 22 (runes_Bad): YtlmmhlabacghnaaDoorBad

-- BY HAND: function 28 (runes_List): YtlmmhlabacghnaaDoorList

/-! ### trestlelaw01_fixed: function 13 -/
def trestlelaw01_fixed.f  : Option (Bool) := (runes_List.f (⟨#[97, 195, 169, 255]⟩ : ByteArray)).bind fun t101 => ((runes_Encode.f 8364).bind fun bt104 => (if (t101.length : Int) = 3 then (if 1 < (t101.length : Int) then (if (((rd_T28 t101 1).f0) == 1 && (((rd_T28 t101 1).f1) == 2 && (((rd_T28 t101 1).f2) == 233))) = true then (if 2 < (t101.length : Int) then (if (((rd_T28 t101 2).f0) == 3 && (((rd_T28 t101 2).f1) == 1 && (((rd_T28 t101 2).f2) == 65533))) = true then (if bt104.1.toList = ([226, 130, 172] : List UInt8) then (if bt104.2 = 0 then ((runes_Bad.f (⟨#[195, 169, 255]⟩ : ByteArray)).bind fun t108 => (some (t108 == 2))) else (some false)) else (some false)) else (some false)) else (none)) else (some false)) else (none)) else (some false)))
set_option maxHeartbeats 8000000 in
set_option maxRecDepth 100000 in
theorem trestlelaw01_fixed.calls  (r : Bool) (w : World) (h : trestlelaw01_fixed.f  = some r) :
    Calls Tryd.prog 13 #[] w fun e w' => e = .returned (.bool r) ∧ Below w.heap.size w w' := by
  have hu28 := Tryd.underlying28
  have HB := Aside0.mk (Below.refl w.heap.size w)
  have H : ((runes_List.f (⟨#[97, 195, 169, 255]⟩ : ByteArray)).bind fun t101 => ((runes_Encode.f 8364).bind fun bt104 => (if (t101.length : Int) = 3 then (if 1 < (t101.length : Int) then (if (((rd_T28 t101 1).f0) == 1 && (((rd_T28 t101 1).f1) == 2 && (((rd_T28 t101 1).f2) == 233))) = true then (if 2 < (t101.length : Int) then (if (((rd_T28 t101 2).f0) == 3 && (((rd_T28 t101 2).f1) == 1 && (((rd_T28 t101 2).f2) == 65533))) = true then (if bt104.1.toList = ([226, 130, 172] : List UInt8) then (if bt104.2 = 0 then ((runes_Bad.f (⟨#[195, 169, 255]⟩ : ByteArray)).bind fun t108 => (some (t108 == 2))) else (some false)) else (some false)) else (some false)) else (none)) else (some false)) else (none)) else (some false)))) = some r := h
  clear h
  replace H := Option.bind_eq_some_iff.mp H
  obtain ⟨t101, A10, H⟩ := H
  replace H : ((runes_Encode.f 8364).bind fun bt104 => (if (t101.length : Int) = 3 then (if 1 < (t101.length : Int) then (if (((rd_T28 t101 1).f0) == 1 && (((rd_T28 t101 1).f1) == 2 && (((rd_T28 t101 1).f2) == 233))) = true then (if 2 < (t101.length : Int) then (if (((rd_T28 t101 2).f0) == 3 && (((rd_T28 t101 2).f1) == 1 && (((rd_T28 t101 2).f2) == 65533))) = true then (if bt104.1.toList = ([226, 130, 172] : List UInt8) then (if bt104.2 = 0 then ((runes_Bad.f (⟨#[195, 169, 255]⟩ : ByteArray)).bind fun t108 => (some (t108 == 2))) else (some false)) else (some false)) else (some false)) else (none)) else (some false)) else (none)) else (some false))) = some r := H
  have A1 := Aside0.mk A10
  clear A10
  replace H := Option.bind_eq_some_iff.mp H
  obtain ⟨⟨t104, t105⟩, A20, H⟩ := H
  replace H : (if (t101.length : Int) = 3 then (if 1 < (t101.length : Int) then (if (((rd_T28 t101 1).f0) == 1 && (((rd_T28 t101 1).f1) == 2 && (((rd_T28 t101 1).f2) == 233))) = true then (if 2 < (t101.length : Int) then (if (((rd_T28 t101 2).f0) == 3 && (((rd_T28 t101 2).f1) == 1 && (((rd_T28 t101 2).f2) == 65533))) = true then (if t104.toList = ([226, 130, 172] : List UInt8) then (if t105 = 0 then ((runes_Bad.f (⟨#[195, 169, 255]⟩ : ByteArray)).bind fun t108 => (some (t108 == 2))) else (some false)) else (some false)) else (some false)) else (none)) else (some false)) else (none)) else (some false)) = some r := H
  have A2 := Aside0.mk A20
  clear A20
  by_cases c3 : (t101.length : Int) = 3
  · rw [if_pos c3] at H
    have c3b0 : ((t101.length : Int) == 3) = true := beq_iff_eq.mpr c3
    have c3b1 : ((t101.length : Int) != 3) = false := bne_eq_false_iff_eq.mpr c3
    clear c3
    by_cases c4 : 1 < (t101.length : Int)
    · rw [if_pos c4] at H
      have c4b0 : decide (1 < (t101.length : Int)) = true := decide_eq_true c4
      have c4b1 : decide (1 < t101.length) = true := decide_eq_true (by omega)
      clear c4
      by_cases c5 : (((rd_T28 t101 1).f0) == 1 && (((rd_T28 t101 1).f1) == 2 && (((rd_T28 t101 1).f2) == 233))) = true
      · rw [if_pos c5] at H
        have c5b0 : (((rd_T28 t101 1).f0) == 1 && (((rd_T28 t101 1).f1) == 2 && (((rd_T28 t101 1).f2) == 233))) = true := c5
        (try (have c5b1 : decide (((rd_T28 t101 1).f0) = 1 && (((rd_T28 t101 1).f1) == 2 && (((rd_T28 t101 1).f2) == 233))) = true := by simpa using c5))
        (try (have c5b2 : (((rd_T28 t101 1).f0) == 1 && (((rd_T28 t101 1).f1) == 2 && (((rd_T28 t101 1).f2) == 233))) = true := by simpa using c5))
        clear c5
        by_cases c6 : 2 < (t101.length : Int)
        · rw [if_pos c6] at H
          have c6b0 : decide (2 < (t101.length : Int)) = true := decide_eq_true c6
          have c6b1 : decide (2 < t101.length) = true := decide_eq_true (by omega)
          clear c6
          by_cases c7 : (((rd_T28 t101 2).f0) == 3 && (((rd_T28 t101 2).f1) == 1 && (((rd_T28 t101 2).f2) == 65533))) = true
          · rw [if_pos c7] at H
            have c7b0 : (((rd_T28 t101 2).f0) == 3 && (((rd_T28 t101 2).f1) == 1 && (((rd_T28 t101 2).f2) == 65533))) = true := c7
            (try (have c7b1 : decide (((rd_T28 t101 2).f0) = 3 && (((rd_T28 t101 2).f1) == 1 && (((rd_T28 t101 2).f2) == 65533))) = true := by simpa using c7))
            (try (have c7b2 : (((rd_T28 t101 2).f0) == 3 && (((rd_T28 t101 2).f1) == 1 && (((rd_T28 t101 2).f2) == 65533))) = true := by simpa using c7))
            clear c7
            by_cases c8 : t104.toList = ([226, 130, 172] : List UInt8)
            · rw [if_pos c8] at H
              have c8b0 : (t104.toList == ([226, 130, 172] : List UInt8)) = true := beq_iff_eq.mpr c8
              have c8b1 : (t104.toList != ([226, 130, 172] : List UInt8)) = false := bne_eq_false_iff_eq.mpr c8
              clear c8
              by_cases c9 : t105 = 0
              · rw [if_pos c9] at H
                have c9b0 : (t105 == 0) = true := beq_iff_eq.mpr c9
                have c9b1 : (t105 != 0) = false := bne_eq_false_iff_eq.mpr c9
                clear c9
                replace H := Option.bind_eq_some_iff.mp H
                obtain ⟨t108, A100, H⟩ := H
                replace H : (some (t108 == 2)) = some r := H
                have A10 := Aside0.mk A100
                clear A100
                obtain rfl := Option.some.inj H
                go_enter Tryd.func13, Tryd.ntmps13
                go_wp2_with (first | ((with_reducible refine gate_callee (f := 28) rfl ?_); refine goesL_ (some 4) rfl rfl Tryd.func28 (by kernel_rfl) rfl #[.string (⟨#[97, 195, 169, 255]⟩ : ByteArray)] rfl (by (try simp only [List.map_toArray, List.map_cons, List.map_nil]); first | done | rfl | (simp only [List.length_drop, List.length_take]; rfl)) ?_; (with_reducible refine (runes_List.calls (⟨#[97, 195, 169, 255]⟩ : ByteArray) t101 _ A1.out).mono ?_); rintro e w11 ⟨v102, rfl, ho0, hb⟩; refine ⟨_, rfl, ?_⟩; have n0_ := Aside0.mk (Kd.R_lower ho0 (below_size (by repeat (first | (with_reducible first | exact HB.out | apply below_alloc | apply pw_below_drewN | apply below_drew1) | exact HB.out)))); have n1_ := Aside0.mk (below_step (by repeat (first | (with_reducible first | exact HB.out | apply below_alloc | apply pw_below_drewN | apply below_drew1) | exact HB.out)) hb); clear HB; have HO103 := n0_; have HB := n1_; clear n0_ n1_; (try clear hb); (try clear hb2); (try clear hk); (try clear hi); (try clear ho0)) | ((with_reducible refine gate_callee (f := 14) rfl ?_); refine goesL_ (some 6) rfl rfl Tryd.func14 (by kernel_rfl) rfl #[.int .i64 8364] rfl (by (try simp only [List.map_toArray, List.map_cons, List.map_nil]); first | done | rfl | (simp only [List.length_drop, List.length_take]; rfl)) ?_; (with_reducible refine (runes_Encode.calls 8364 t104 t105 _ A2.out).mono ?_); rintro e w12 ⟨rfl, hb⟩; refine ⟨_, rfl, ?_⟩; have n0_ := Aside0.mk (Kd.R_below (by (with_reducible repeat (first | apply Kd.R_alloc | apply Kd.R_drewN | apply Kd.R_drew)); exact HO103.out) hb); have n1_ := Aside0.mk (below_step (by repeat (first | (with_reducible first | exact HB.out | apply below_alloc | apply pw_below_drewN | apply below_drew1) | exact HB.out)) hb); clear HO103; clear HB; have HO103 := n0_; have HB := n1_; clear n0_ n1_; (try clear hb); (try clear hb2); (try clear hk); (try clear hi); obtain ⟨Ao13, co13, eo13⟩ := Kd.R_slice HO103.out; subst eo13; have p106 : 0 ≤ (1 : Int) := (by omega); have q106 : 1 < (t101.length : Int) := of_decide_eq_true (by first | (with_reducible assumption) | assumption); obtain ⟨ad106, e106, hx106_0, hx106_1, hx106_2⟩ := at_T28 (Kd.R_reads' HO103.out).2.2 1 p106 q106; cases e106; (try simp only [show (1 : Int).toNat = 1 from rfl, Nat.reduceMul, Nat.reduceEqDiff, Go.Addr.add, ↓reduceIte] at hx106_0); (try simp only [show (1 : Int).toNat = 1 from rfl, Nat.reduceMul, Nat.reduceEqDiff, Go.Addr.add, ↓reduceIte] at hx106_1); (try simp only [show (1 : Int).toNat = 1 from rfl, Nat.reduceMul, Nat.reduceEqDiff, Go.Addr.add, ↓reduceIte] at hx106_2); have qi106 : (1 < t101.length) = True := eq_true (by omega); (try rw [show ((1 : Int)).toNat = 1 from rfl] at hx106_0); (try rw [show 1 * 3 = 3 from rfl] at hx106_0); (try rw [show ((1 : Int)).toNat = 1 from rfl] at hx106_1); (try rw [show 1 * 3 = 3 from rfl] at hx106_1); (try rw [show ((1 : Int)).toNat = 1 from rfl] at hx106_2); (try rw [show 1 * 3 = 3 from rfl] at hx106_2); replace p106 := eq_true p106; replace q106 := eq_true q106; have p107 : 0 ≤ (2 : Int) := (by omega); have q107 : 2 < (t101.length : Int) := of_decide_eq_true (by first | (with_reducible assumption) | assumption); obtain ⟨ad107, e107, hx107_0, hx107_1, hx107_2⟩ := at_T28 (Kd.R_reads' HO103.out).2.2 2 p107 q107; obtain rfl : ad106 = ad107 := (by injection e107); (try simp only [show (2 : Int).toNat = 2 from rfl, Nat.reduceMul, Nat.reduceEqDiff, Go.Addr.add, ↓reduceIte] at hx107_0); (try simp only [show (2 : Int).toNat = 2 from rfl, Nat.reduceMul, Nat.reduceEqDiff, Go.Addr.add, ↓reduceIte] at hx107_1); (try simp only [show (2 : Int).toNat = 2 from rfl, Nat.reduceMul, Nat.reduceEqDiff, Go.Addr.add, ↓reduceIte] at hx107_2); have qi107 : (2 < t101.length) = True := eq_true (by omega); (try rw [show ((2 : Int)).toNat = 2 from rfl] at hx107_0); (try rw [show 2 * 3 = 6 from rfl] at hx107_0); (try rw [show ((2 : Int)).toNat = 2 from rfl] at hx107_1); (try rw [show 2 * 3 = 6 from rfl] at hx107_1); (try rw [show ((2 : Int)).toNat = 2 from rfl] at hx107_2); (try rw [show 2 * 3 = 6 from rfl] at hx107_2); replace p107 := eq_true p107; replace q107 := eq_true q107) | (go_at_call 22; (with_reducible refine (runes_Bad.calls (⟨#[195, 169, 255]⟩ : ByteArray) t108 _ A10.out).mono ?_); rintro e w14 ⟨rfl, hb⟩; have n0_ := Aside0.mk (Kd.R_below (by (with_reducible repeat (first | apply Kd.R_alloc | apply Kd.R_drewN | apply Kd.R_drew)); exact HO103.out) hb); have n1_ := Aside0.mk (below_step (by repeat (first | (with_reducible first | exact HB.out | apply below_alloc | apply pw_below_drewN | apply below_drew1) | exact HB.out)) hb); clear HO103; clear HB; have HO103 := n0_; have HB := n1_; clear n0_ n1_; (try clear hb); (try clear hb2); (try clear hk); (try clear hi)))
                go_ret
                exact ⟨by first | rfl | (simp [errW_none, errW_some] <;> rfl) | (simp [*, errW_none, errW_some] <;> rfl), by repeat (first | (with_reducible first | exact HB.out | apply below_alloc | apply pw_below_drewN | apply below_drew1) | exact HB.out)⟩
              · rw [if_neg c9] at H
                have c9b0 : (t105 == 0) = false := beq_eq_false_iff_ne.mpr c9
                have c9b1 : (t105 != 0) = true := bne_iff_ne.mpr c9
                obtain rfl := Option.some.inj H
                go_enter Tryd.func13, Tryd.ntmps13
                go_wp2_with (first | ((with_reducible refine gate_callee (f := 28) rfl ?_); refine goesL_ (some 4) rfl rfl Tryd.func28 (by kernel_rfl) rfl #[.string (⟨#[97, 195, 169, 255]⟩ : ByteArray)] rfl (by (try simp only [List.map_toArray, List.map_cons, List.map_nil]); first | done | rfl | (simp only [List.length_drop, List.length_take]; rfl)) ?_; (with_reducible refine (runes_List.calls (⟨#[97, 195, 169, 255]⟩ : ByteArray) t101 _ A1.out).mono ?_); rintro e w15 ⟨v102, rfl, ho0, hb⟩; refine ⟨_, rfl, ?_⟩; have n0_ := Aside0.mk (Kd.R_lower ho0 (below_size (by repeat (first | (with_reducible first | exact HB.out | apply below_alloc | apply pw_below_drewN | apply below_drew1) | exact HB.out)))); have n1_ := Aside0.mk (below_step (by repeat (first | (with_reducible first | exact HB.out | apply below_alloc | apply pw_below_drewN | apply below_drew1) | exact HB.out)) hb); clear HB; have HO103 := n0_; have HB := n1_; clear n0_ n1_; (try clear hb); (try clear hb2); (try clear hk); (try clear hi); (try clear ho0)) | ((with_reducible refine gate_callee (f := 14) rfl ?_); refine goesL_ (some 6) rfl rfl Tryd.func14 (by kernel_rfl) rfl #[.int .i64 8364] rfl (by (try simp only [List.map_toArray, List.map_cons, List.map_nil]); first | done | rfl | (simp only [List.length_drop, List.length_take]; rfl)) ?_; (with_reducible refine (runes_Encode.calls 8364 t104 t105 _ A2.out).mono ?_); rintro e w16 ⟨rfl, hb⟩; refine ⟨_, rfl, ?_⟩; have n0_ := Aside0.mk (Kd.R_below (by (with_reducible repeat (first | apply Kd.R_alloc | apply Kd.R_drewN | apply Kd.R_drew)); exact HO103.out) hb); have n1_ := Aside0.mk (below_step (by repeat (first | (with_reducible first | exact HB.out | apply below_alloc | apply pw_below_drewN | apply below_drew1) | exact HB.out)) hb); clear HO103; clear HB; have HO103 := n0_; have HB := n1_; clear n0_ n1_; (try clear hb); (try clear hb2); (try clear hk); (try clear hi); obtain ⟨Ao17, co17, eo17⟩ := Kd.R_slice HO103.out; subst eo17; have p106 : 0 ≤ (1 : Int) := (by omega); have q106 : 1 < (t101.length : Int) := of_decide_eq_true (by first | (with_reducible assumption) | assumption); obtain ⟨ad106, e106, hx106_0, hx106_1, hx106_2⟩ := at_T28 (Kd.R_reads' HO103.out).2.2 1 p106 q106; cases e106; (try simp only [show (1 : Int).toNat = 1 from rfl, Nat.reduceMul, Nat.reduceEqDiff, Go.Addr.add, ↓reduceIte] at hx106_0); (try simp only [show (1 : Int).toNat = 1 from rfl, Nat.reduceMul, Nat.reduceEqDiff, Go.Addr.add, ↓reduceIte] at hx106_1); (try simp only [show (1 : Int).toNat = 1 from rfl, Nat.reduceMul, Nat.reduceEqDiff, Go.Addr.add, ↓reduceIte] at hx106_2); have qi106 : (1 < t101.length) = True := eq_true (by omega); (try rw [show ((1 : Int)).toNat = 1 from rfl] at hx106_0); (try rw [show 1 * 3 = 3 from rfl] at hx106_0); (try rw [show ((1 : Int)).toNat = 1 from rfl] at hx106_1); (try rw [show 1 * 3 = 3 from rfl] at hx106_1); (try rw [show ((1 : Int)).toNat = 1 from rfl] at hx106_2); (try rw [show 1 * 3 = 3 from rfl] at hx106_2); replace p106 := eq_true p106; replace q106 := eq_true q106; have p107 : 0 ≤ (2 : Int) := (by omega); have q107 : 2 < (t101.length : Int) := of_decide_eq_true (by first | (with_reducible assumption) | assumption); obtain ⟨ad107, e107, hx107_0, hx107_1, hx107_2⟩ := at_T28 (Kd.R_reads' HO103.out).2.2 2 p107 q107; obtain rfl : ad106 = ad107 := (by injection e107); (try simp only [show (2 : Int).toNat = 2 from rfl, Nat.reduceMul, Nat.reduceEqDiff, Go.Addr.add, ↓reduceIte] at hx107_0); (try simp only [show (2 : Int).toNat = 2 from rfl, Nat.reduceMul, Nat.reduceEqDiff, Go.Addr.add, ↓reduceIte] at hx107_1); (try simp only [show (2 : Int).toNat = 2 from rfl, Nat.reduceMul, Nat.reduceEqDiff, Go.Addr.add, ↓reduceIte] at hx107_2); have qi107 : (2 < t101.length) = True := eq_true (by omega); (try rw [show ((2 : Int)).toNat = 2 from rfl] at hx107_0); (try rw [show 2 * 3 = 6 from rfl] at hx107_0); (try rw [show ((2 : Int)).toNat = 2 from rfl] at hx107_1); (try rw [show 2 * 3 = 6 from rfl] at hx107_1); (try rw [show ((2 : Int)).toNat = 2 from rfl] at hx107_2); (try rw [show 2 * 3 = 6 from rfl] at hx107_2); replace p107 := eq_true p107; replace q107 := eq_true q107))
                go_ret
                exact ⟨by first | rfl | (simp [errW_none, errW_some] <;> rfl) | (simp [*, errW_none, errW_some] <;> rfl), by repeat (first | (with_reducible first | exact HB.out | apply below_alloc | apply pw_below_drewN | apply below_drew1) | exact HB.out)⟩
            · rw [if_neg c8] at H
              have c8b0 : (t104.toList == ([226, 130, 172] : List UInt8)) = false := beq_eq_false_iff_ne.mpr c8
              have c8b1 : (t104.toList != ([226, 130, 172] : List UInt8)) = true := bne_iff_ne.mpr c8
              obtain rfl := Option.some.inj H
              go_enter Tryd.func13, Tryd.ntmps13
              go_wp2_with (first | ((with_reducible refine gate_callee (f := 28) rfl ?_); refine goesL_ (some 4) rfl rfl Tryd.func28 (by kernel_rfl) rfl #[.string (⟨#[97, 195, 169, 255]⟩ : ByteArray)] rfl (by (try simp only [List.map_toArray, List.map_cons, List.map_nil]); first | done | rfl | (simp only [List.length_drop, List.length_take]; rfl)) ?_; (with_reducible refine (runes_List.calls (⟨#[97, 195, 169, 255]⟩ : ByteArray) t101 _ A1.out).mono ?_); rintro e w18 ⟨v102, rfl, ho0, hb⟩; refine ⟨_, rfl, ?_⟩; have n0_ := Aside0.mk (Kd.R_lower ho0 (below_size (by repeat (first | (with_reducible first | exact HB.out | apply below_alloc | apply pw_below_drewN | apply below_drew1) | exact HB.out)))); have n1_ := Aside0.mk (below_step (by repeat (first | (with_reducible first | exact HB.out | apply below_alloc | apply pw_below_drewN | apply below_drew1) | exact HB.out)) hb); clear HB; have HO103 := n0_; have HB := n1_; clear n0_ n1_; (try clear hb); (try clear hb2); (try clear hk); (try clear hi); (try clear ho0)) | ((with_reducible refine gate_callee (f := 14) rfl ?_); refine goesL_ (some 6) rfl rfl Tryd.func14 (by kernel_rfl) rfl #[.int .i64 8364] rfl (by (try simp only [List.map_toArray, List.map_cons, List.map_nil]); first | done | rfl | (simp only [List.length_drop, List.length_take]; rfl)) ?_; (with_reducible refine (runes_Encode.calls 8364 t104 t105 _ A2.out).mono ?_); rintro e w19 ⟨rfl, hb⟩; refine ⟨_, rfl, ?_⟩; have n0_ := Aside0.mk (Kd.R_below (by (with_reducible repeat (first | apply Kd.R_alloc | apply Kd.R_drewN | apply Kd.R_drew)); exact HO103.out) hb); have n1_ := Aside0.mk (below_step (by repeat (first | (with_reducible first | exact HB.out | apply below_alloc | apply pw_below_drewN | apply below_drew1) | exact HB.out)) hb); clear HO103; clear HB; have HO103 := n0_; have HB := n1_; clear n0_ n1_; (try clear hb); (try clear hb2); (try clear hk); (try clear hi); obtain ⟨Ao20, co20, eo20⟩ := Kd.R_slice HO103.out; subst eo20; have p106 : 0 ≤ (1 : Int) := (by omega); have q106 : 1 < (t101.length : Int) := of_decide_eq_true (by first | (with_reducible assumption) | assumption); obtain ⟨ad106, e106, hx106_0, hx106_1, hx106_2⟩ := at_T28 (Kd.R_reads' HO103.out).2.2 1 p106 q106; cases e106; (try simp only [show (1 : Int).toNat = 1 from rfl, Nat.reduceMul, Nat.reduceEqDiff, Go.Addr.add, ↓reduceIte] at hx106_0); (try simp only [show (1 : Int).toNat = 1 from rfl, Nat.reduceMul, Nat.reduceEqDiff, Go.Addr.add, ↓reduceIte] at hx106_1); (try simp only [show (1 : Int).toNat = 1 from rfl, Nat.reduceMul, Nat.reduceEqDiff, Go.Addr.add, ↓reduceIte] at hx106_2); have qi106 : (1 < t101.length) = True := eq_true (by omega); (try rw [show ((1 : Int)).toNat = 1 from rfl] at hx106_0); (try rw [show 1 * 3 = 3 from rfl] at hx106_0); (try rw [show ((1 : Int)).toNat = 1 from rfl] at hx106_1); (try rw [show 1 * 3 = 3 from rfl] at hx106_1); (try rw [show ((1 : Int)).toNat = 1 from rfl] at hx106_2); (try rw [show 1 * 3 = 3 from rfl] at hx106_2); replace p106 := eq_true p106; replace q106 := eq_true q106; have p107 : 0 ≤ (2 : Int) := (by omega); have q107 : 2 < (t101.length : Int) := of_decide_eq_true (by first | (with_reducible assumption) | assumption); obtain ⟨ad107, e107, hx107_0, hx107_1, hx107_2⟩ := at_T28 (Kd.R_reads' HO103.out).2.2 2 p107 q107; obtain rfl : ad106 = ad107 := (by injection e107); (try simp only [show (2 : Int).toNat = 2 from rfl, Nat.reduceMul, Nat.reduceEqDiff, Go.Addr.add, ↓reduceIte] at hx107_0); (try simp only [show (2 : Int).toNat = 2 from rfl, Nat.reduceMul, Nat.reduceEqDiff, Go.Addr.add, ↓reduceIte] at hx107_1); (try simp only [show (2 : Int).toNat = 2 from rfl, Nat.reduceMul, Nat.reduceEqDiff, Go.Addr.add, ↓reduceIte] at hx107_2); have qi107 : (2 < t101.length) = True := eq_true (by omega); (try rw [show ((2 : Int)).toNat = 2 from rfl] at hx107_0); (try rw [show 2 * 3 = 6 from rfl] at hx107_0); (try rw [show ((2 : Int)).toNat = 2 from rfl] at hx107_1); (try rw [show 2 * 3 = 6 from rfl] at hx107_1); (try rw [show ((2 : Int)).toNat = 2 from rfl] at hx107_2); (try rw [show 2 * 3 = 6 from rfl] at hx107_2); replace p107 := eq_true p107; replace q107 := eq_true q107))
              go_ret
              exact ⟨by first | rfl | (simp [errW_none, errW_some] <;> rfl) | (simp [*, errW_none, errW_some] <;> rfl), by repeat (first | (with_reducible first | exact HB.out | apply below_alloc | apply pw_below_drewN | apply below_drew1) | exact HB.out)⟩
          · rw [if_neg c7] at H
            have c7b0 : (((rd_T28 t101 2).f0) == 3 && (((rd_T28 t101 2).f1) == 1 && (((rd_T28 t101 2).f2) == 65533))) = false := by simpa using c7
            (try (have c7b1 : decide (((rd_T28 t101 2).f0) = 3 && (((rd_T28 t101 2).f1) == 1 && (((rd_T28 t101 2).f2) == 65533))) = false := by simpa using c7))
            (try (have c7b2 : (((rd_T28 t101 2).f0) == 3 && (((rd_T28 t101 2).f1) == 1 && (((rd_T28 t101 2).f2) == 65533))) = false := by simpa using c7))
            (try (have c7b3 : ¬ (((rd_T28 t101 2).f0) = 3 && (((rd_T28 t101 2).f1) == 1 && (((rd_T28 t101 2).f2) == 65533))) := by simpa using c7))
            clear c7
            obtain rfl := Option.some.inj H
            go_enter Tryd.func13, Tryd.ntmps13
            go_wp2_with (first | ((with_reducible refine gate_callee (f := 28) rfl ?_); refine goesL_ (some 4) rfl rfl Tryd.func28 (by kernel_rfl) rfl #[.string (⟨#[97, 195, 169, 255]⟩ : ByteArray)] rfl (by (try simp only [List.map_toArray, List.map_cons, List.map_nil]); first | done | rfl | (simp only [List.length_drop, List.length_take]; rfl)) ?_; (with_reducible refine (runes_List.calls (⟨#[97, 195, 169, 255]⟩ : ByteArray) t101 _ A1.out).mono ?_); rintro e w21 ⟨v102, rfl, ho0, hb⟩; refine ⟨_, rfl, ?_⟩; have n0_ := Aside0.mk (Kd.R_lower ho0 (below_size (by repeat (first | (with_reducible first | exact HB.out | apply below_alloc | apply pw_below_drewN | apply below_drew1) | exact HB.out)))); have n1_ := Aside0.mk (below_step (by repeat (first | (with_reducible first | exact HB.out | apply below_alloc | apply pw_below_drewN | apply below_drew1) | exact HB.out)) hb); clear HB; have HO103 := n0_; have HB := n1_; clear n0_ n1_; (try clear hb); (try clear hb2); (try clear hk); (try clear hi); (try clear ho0)) | ((with_reducible refine gate_callee (f := 14) rfl ?_); refine goesL_ (some 6) rfl rfl Tryd.func14 (by kernel_rfl) rfl #[.int .i64 8364] rfl (by (try simp only [List.map_toArray, List.map_cons, List.map_nil]); first | done | rfl | (simp only [List.length_drop, List.length_take]; rfl)) ?_; (with_reducible refine (runes_Encode.calls 8364 t104 t105 _ A2.out).mono ?_); rintro e w22 ⟨rfl, hb⟩; refine ⟨_, rfl, ?_⟩; have n0_ := Aside0.mk (Kd.R_below (by (with_reducible repeat (first | apply Kd.R_alloc | apply Kd.R_drewN | apply Kd.R_drew)); exact HO103.out) hb); have n1_ := Aside0.mk (below_step (by repeat (first | (with_reducible first | exact HB.out | apply below_alloc | apply pw_below_drewN | apply below_drew1) | exact HB.out)) hb); clear HO103; clear HB; have HO103 := n0_; have HB := n1_; clear n0_ n1_; (try clear hb); (try clear hb2); (try clear hk); (try clear hi); obtain ⟨Ao23, co23, eo23⟩ := Kd.R_slice HO103.out; subst eo23; have p106 : 0 ≤ (1 : Int) := (by omega); have q106 : 1 < (t101.length : Int) := of_decide_eq_true (by first | (with_reducible assumption) | assumption); obtain ⟨ad106, e106, hx106_0, hx106_1, hx106_2⟩ := at_T28 (Kd.R_reads' HO103.out).2.2 1 p106 q106; cases e106; (try simp only [show (1 : Int).toNat = 1 from rfl, Nat.reduceMul, Nat.reduceEqDiff, Go.Addr.add, ↓reduceIte] at hx106_0); (try simp only [show (1 : Int).toNat = 1 from rfl, Nat.reduceMul, Nat.reduceEqDiff, Go.Addr.add, ↓reduceIte] at hx106_1); (try simp only [show (1 : Int).toNat = 1 from rfl, Nat.reduceMul, Nat.reduceEqDiff, Go.Addr.add, ↓reduceIte] at hx106_2); have qi106 : (1 < t101.length) = True := eq_true (by omega); (try rw [show ((1 : Int)).toNat = 1 from rfl] at hx106_0); (try rw [show 1 * 3 = 3 from rfl] at hx106_0); (try rw [show ((1 : Int)).toNat = 1 from rfl] at hx106_1); (try rw [show 1 * 3 = 3 from rfl] at hx106_1); (try rw [show ((1 : Int)).toNat = 1 from rfl] at hx106_2); (try rw [show 1 * 3 = 3 from rfl] at hx106_2); replace p106 := eq_true p106; replace q106 := eq_true q106; have p107 : 0 ≤ (2 : Int) := (by omega); have q107 : 2 < (t101.length : Int) := of_decide_eq_true (by first | (with_reducible assumption) | assumption); obtain ⟨ad107, e107, hx107_0, hx107_1, hx107_2⟩ := at_T28 (Kd.R_reads' HO103.out).2.2 2 p107 q107; obtain rfl : ad106 = ad107 := (by injection e107); (try simp only [show (2 : Int).toNat = 2 from rfl, Nat.reduceMul, Nat.reduceEqDiff, Go.Addr.add, ↓reduceIte] at hx107_0); (try simp only [show (2 : Int).toNat = 2 from rfl, Nat.reduceMul, Nat.reduceEqDiff, Go.Addr.add, ↓reduceIte] at hx107_1); (try simp only [show (2 : Int).toNat = 2 from rfl, Nat.reduceMul, Nat.reduceEqDiff, Go.Addr.add, ↓reduceIte] at hx107_2); have qi107 : (2 < t101.length) = True := eq_true (by omega); (try rw [show ((2 : Int)).toNat = 2 from rfl] at hx107_0); (try rw [show 2 * 3 = 6 from rfl] at hx107_0); (try rw [show ((2 : Int)).toNat = 2 from rfl] at hx107_1); (try rw [show 2 * 3 = 6 from rfl] at hx107_1); (try rw [show ((2 : Int)).toNat = 2 from rfl] at hx107_2); (try rw [show 2 * 3 = 6 from rfl] at hx107_2); replace p107 := eq_true p107; replace q107 := eq_true q107))
            go_ret
            exact ⟨by first | rfl | (simp [errW_none, errW_some] <;> rfl) | (simp [*, errW_none, errW_some] <;> rfl), by repeat (first | (with_reducible first | exact HB.out | apply below_alloc | apply pw_below_drewN | apply below_drew1) | exact HB.out)⟩
        · rw [if_neg c6] at H
          exact absurd H (by simp)
      · rw [if_neg c5] at H
        have c5b0 : (((rd_T28 t101 1).f0) == 1 && (((rd_T28 t101 1).f1) == 2 && (((rd_T28 t101 1).f2) == 233))) = false := by simpa using c5
        (try (have c5b1 : decide (((rd_T28 t101 1).f0) = 1 && (((rd_T28 t101 1).f1) == 2 && (((rd_T28 t101 1).f2) == 233))) = false := by simpa using c5))
        (try (have c5b2 : (((rd_T28 t101 1).f0) == 1 && (((rd_T28 t101 1).f1) == 2 && (((rd_T28 t101 1).f2) == 233))) = false := by simpa using c5))
        (try (have c5b3 : ¬ (((rd_T28 t101 1).f0) = 1 && (((rd_T28 t101 1).f1) == 2 && (((rd_T28 t101 1).f2) == 233))) := by simpa using c5))
        clear c5
        obtain rfl := Option.some.inj H
        go_enter Tryd.func13, Tryd.ntmps13
        go_wp2_with (first | ((with_reducible refine gate_callee (f := 28) rfl ?_); refine goesL_ (some 4) rfl rfl Tryd.func28 (by kernel_rfl) rfl #[.string (⟨#[97, 195, 169, 255]⟩ : ByteArray)] rfl (by (try simp only [List.map_toArray, List.map_cons, List.map_nil]); first | done | rfl | (simp only [List.length_drop, List.length_take]; rfl)) ?_; (with_reducible refine (runes_List.calls (⟨#[97, 195, 169, 255]⟩ : ByteArray) t101 _ A1.out).mono ?_); rintro e w24 ⟨v102, rfl, ho0, hb⟩; refine ⟨_, rfl, ?_⟩; have n0_ := Aside0.mk (Kd.R_lower ho0 (below_size (by repeat (first | (with_reducible first | exact HB.out | apply below_alloc | apply pw_below_drewN | apply below_drew1) | exact HB.out)))); have n1_ := Aside0.mk (below_step (by repeat (first | (with_reducible first | exact HB.out | apply below_alloc | apply pw_below_drewN | apply below_drew1) | exact HB.out)) hb); clear HB; have HO103 := n0_; have HB := n1_; clear n0_ n1_; (try clear hb); (try clear hb2); (try clear hk); (try clear hi); (try clear ho0)) | ((with_reducible refine gate_callee (f := 14) rfl ?_); refine goesL_ (some 6) rfl rfl Tryd.func14 (by kernel_rfl) rfl #[.int .i64 8364] rfl (by (try simp only [List.map_toArray, List.map_cons, List.map_nil]); first | done | rfl | (simp only [List.length_drop, List.length_take]; rfl)) ?_; (with_reducible refine (runes_Encode.calls 8364 t104 t105 _ A2.out).mono ?_); rintro e w25 ⟨rfl, hb⟩; refine ⟨_, rfl, ?_⟩; have n0_ := Aside0.mk (Kd.R_below (by (with_reducible repeat (first | apply Kd.R_alloc | apply Kd.R_drewN | apply Kd.R_drew)); exact HO103.out) hb); have n1_ := Aside0.mk (below_step (by repeat (first | (with_reducible first | exact HB.out | apply below_alloc | apply pw_below_drewN | apply below_drew1) | exact HB.out)) hb); clear HO103; clear HB; have HO103 := n0_; have HB := n1_; clear n0_ n1_; (try clear hb); (try clear hb2); (try clear hk); (try clear hi); obtain ⟨Ao26, co26, eo26⟩ := Kd.R_slice HO103.out; subst eo26; have p106 : 0 ≤ (1 : Int) := (by omega); have q106 : 1 < (t101.length : Int) := of_decide_eq_true (by first | (with_reducible assumption) | assumption); obtain ⟨ad106, e106, hx106_0, hx106_1, hx106_2⟩ := at_T28 (Kd.R_reads' HO103.out).2.2 1 p106 q106; cases e106; (try simp only [show (1 : Int).toNat = 1 from rfl, Nat.reduceMul, Nat.reduceEqDiff, Go.Addr.add, ↓reduceIte] at hx106_0); (try simp only [show (1 : Int).toNat = 1 from rfl, Nat.reduceMul, Nat.reduceEqDiff, Go.Addr.add, ↓reduceIte] at hx106_1); (try simp only [show (1 : Int).toNat = 1 from rfl, Nat.reduceMul, Nat.reduceEqDiff, Go.Addr.add, ↓reduceIte] at hx106_2); have qi106 : (1 < t101.length) = True := eq_true (by omega); (try rw [show ((1 : Int)).toNat = 1 from rfl] at hx106_0); (try rw [show 1 * 3 = 3 from rfl] at hx106_0); (try rw [show ((1 : Int)).toNat = 1 from rfl] at hx106_1); (try rw [show 1 * 3 = 3 from rfl] at hx106_1); (try rw [show ((1 : Int)).toNat = 1 from rfl] at hx106_2); (try rw [show 1 * 3 = 3 from rfl] at hx106_2); replace p106 := eq_true p106; replace q106 := eq_true q106))
        go_ret
        exact ⟨by first | rfl | (simp [errW_none, errW_some] <;> rfl) | (simp [*, errW_none, errW_some] <;> rfl), by repeat (first | (with_reducible first | exact HB.out | apply below_alloc | apply pw_below_drewN | apply below_drew1) | exact HB.out)⟩
    · rw [if_neg c4] at H
      exact absurd H (by simp)
  · rw [if_neg c3] at H
    have c3b0 : ((t101.length : Int) == 3) = false := beq_eq_false_iff_ne.mpr c3
    have c3b1 : ((t101.length : Int) != 3) = true := bne_iff_ne.mpr c3
    obtain rfl := Option.some.inj H
    go_enter Tryd.func13, Tryd.ntmps13
    go_wp2_with (first | ((with_reducible refine gate_callee (f := 28) rfl ?_); refine goesL_ (some 4) rfl rfl Tryd.func28 (by kernel_rfl) rfl #[.string (⟨#[97, 195, 169, 255]⟩ : ByteArray)] rfl (by (try simp only [List.map_toArray, List.map_cons, List.map_nil]); first | done | rfl | (simp only [List.length_drop, List.length_take]; rfl)) ?_; (with_reducible refine (runes_List.calls (⟨#[97, 195, 169, 255]⟩ : ByteArray) t101 _ A1.out).mono ?_); rintro e w27 ⟨v102, rfl, ho0, hb⟩; refine ⟨_, rfl, ?_⟩; have n0_ := Aside0.mk (Kd.R_lower ho0 (below_size (by repeat (first | (with_reducible first | exact HB.out | apply below_alloc | apply pw_below_drewN | apply below_drew1) | exact HB.out)))); have n1_ := Aside0.mk (below_step (by repeat (first | (with_reducible first | exact HB.out | apply below_alloc | apply pw_below_drewN | apply below_drew1) | exact HB.out)) hb); clear HB; have HO103 := n0_; have HB := n1_; clear n0_ n1_; (try clear hb); (try clear hb2); (try clear hk); (try clear hi); (try clear ho0)) | ((with_reducible refine gate_callee (f := 14) rfl ?_); refine goesL_ (some 6) rfl rfl Tryd.func14 (by kernel_rfl) rfl #[.int .i64 8364] rfl (by (try simp only [List.map_toArray, List.map_cons, List.map_nil]); first | done | rfl | (simp only [List.length_drop, List.length_take]; rfl)) ?_; (with_reducible refine (runes_Encode.calls 8364 t104 t105 _ A2.out).mono ?_); rintro e w28 ⟨rfl, hb⟩; refine ⟨_, rfl, ?_⟩; have n0_ := Aside0.mk (Kd.R_below (by (with_reducible repeat (first | apply Kd.R_alloc | apply Kd.R_drewN | apply Kd.R_drew)); exact HO103.out) hb); have n1_ := Aside0.mk (below_step (by repeat (first | (with_reducible first | exact HB.out | apply below_alloc | apply pw_below_drewN | apply below_drew1) | exact HB.out)) hb); clear HO103; clear HB; have HO103 := n0_; have HB := n1_; clear n0_ n1_; (try clear hb); (try clear hb2); (try clear hk); (try clear hi); obtain ⟨Ao29, co29, eo29⟩ := Kd.R_slice HO103.out; subst eo29))
    go_ret
    exact ⟨by first | rfl | (simp [errW_none, errW_some] <;> rfl) | (simp [*, errW_none, errW_some] <;> rfl), by repeat (first | (with_reducible first | exact HB.out | apply below_alloc | apply pw_below_drewN | apply below_drew1) | exact HB.out)⟩

/-! ### trestleref01_good: function 45 -/
def trestleref01_good.f (a0 : Int) : Option (Bool) := if a0 ≥ 0 then (if a0 ≤ 1114111 then (if a0 < 55296 then (some true) else (some (decide (a0 > 57343)))) else (some false)) else (some false)
set_option maxHeartbeats 8000000 in
set_option maxRecDepth 100000 in
theorem trestleref01_good.calls (a0 : Int) (r : Bool) (w : World) (h : trestleref01_good.f a0 = some r) :
    Calls Tryd.prog 45 #[.int .i64 a0] w fun e w' => e = .returned (.bool r) ∧ Drawn0 w w' := by
  have H : (if a0 ≥ 0 then (if a0 ≤ 1114111 then (if a0 < 55296 then (some true) else (some (decide (a0 > 57343)))) else (some false)) else (some false)) = some r := h
  clear h
  by_cases c2 : a0 ≥ 0
  · rw [if_pos c2] at H
    have c2b0 : decide (0 ≤ a0) = true := decide_eq_true c2
    clear c2
    by_cases c3 : a0 ≤ 1114111
    · rw [if_pos c3] at H
      have c3b0 : decide (a0 ≤ 1114111) = true := decide_eq_true c3
      clear c3
      by_cases c4 : a0 < 55296
      · rw [if_pos c4] at H
        have c4b0 : decide (a0 < 55296) = true := decide_eq_true c4
        clear c4
        obtain rfl := Option.some.inj H
        go_enter Tryd.func45, Tryd.ntmps45
        go_wp2
        go_ret
        exact ⟨by first | rfl | (simp; done) | (simp [*]; done), by repeat (first | exact Drawn0.refl _ | apply Drawn0.step)⟩
      · rw [if_neg c4] at H
        have c4b0 : decide (a0 < 55296) = false := decide_eq_false c4
        clear c4
        obtain rfl := Option.some.inj H
        go_enter Tryd.func45, Tryd.ntmps45
        go_wp2
        go_ret
        exact ⟨by first | rfl | (simp; done) | (simp [*]; done), by repeat (first | exact Drawn0.refl _ | apply Drawn0.step)⟩
    · rw [if_neg c3] at H
      have c3b0 : decide (a0 ≤ 1114111) = false := decide_eq_false c3
      clear c3
      obtain rfl := Option.some.inj H
      go_enter Tryd.func45, Tryd.ntmps45
      go_wp2
      go_ret
      exact ⟨by first | rfl | (simp; done) | (simp [*]; done), by repeat (first | exact Drawn0.refl _ | apply Drawn0.step)⟩
  · rw [if_neg c2] at H
    have c2b0 : decide (0 ≤ a0) = false := decide_eq_false c2
    clear c2
    obtain rfl := Option.some.inj H
    go_enter Tryd.func45, Tryd.ntmps45
    go_wp2
    go_ret
    exact ⟨by first | rfl | (simp; done) | (simp [*]; done), by repeat (first | exact Drawn0.refl _ | apply Drawn0.step)⟩

/-! ### trestleref01_bytes: function 46 -/
def trestleref01_bytes.j0 : Nat → Int → Int → Option (Int)
  | 0, _, _ => none
  | k + 1, x0, x3 => if x0 ≥ 2048 then (if x0 ≥ 65536 then (some (wrap64 ((wrap64 (x3 + 1)) + 1))) else (some (wrap64 (x3 + 1)))) else (if x0 ≥ 65536 then (some (wrap64 (x3 + 1))) else (some x3))
def trestleref01_bytes.f (k : Nat) (a0 : Int) : Option (Int) := if a0 ≥ 128 then (trestleref01_bytes.j0 k a0 (1 + 1)) else (trestleref01_bytes.j0 k a0 1)
theorem trestleref01_bytes.mono_l : ∀ k, (∀ y0 y1, LeO (trestleref01_bytes.j0 k y0 y1) (trestleref01_bytes.j0 (k + 1) y0 y1))
  | 0 => fun _ _ r h => by simp [trestleref01_bytes.j0] at h
  | k + 1 => by
    have ih0 := trestleref01_bytes.mono_l k
    · intro y0 y1
      unfold trestleref01_bytes.j0
      repeat' first
      | (with_reducible exact ih0 _ _)
      | (with_reducible exact LeO.refl _)
      | (with_reducible exact LeO.none _)
      | (with_reducible refine LeO.ite ?_ ?_)
      | (with_reducible refine LeO.bind ?_ (fun _ => ?_))
      | exact ih0 _ _
      | exact LeO.none _
      | refine LeO.ite ?_ ?_
      | refine LeO.bind ?_ (fun _ => ?_)
theorem trestleref01_bytes.mono : ∀ a0 k, LeO (trestleref01_bytes.f k a0) (trestleref01_bytes.f (k + 1) a0) := by
  intro a0 k
  have ih0 := trestleref01_bytes.mono_l k
  unfold trestleref01_bytes.f
  repeat' first
      | (with_reducible exact ih0 _ _)
      | (with_reducible exact LeO.refl _)
      | (with_reducible exact LeO.none _)
      | (with_reducible refine LeO.ite ?_ ?_)
      | (with_reducible refine LeO.bind ?_ (fun _ => ?_))
      | exact ih0 _ _
      | exact LeO.none _
      | refine LeO.ite ?_ ?_
      | refine LeO.bind ?_ (fun _ => ?_)
set_option maxHeartbeats 8000000 in
set_option maxRecDepth 100000 in
theorem trestleref01_bytes.calls (k : Nat) (a0 : Int) (r : Int) (w : World) (h : trestleref01_bytes.f k a0 = some r) :
    Calls Tryd.prog 46 #[.int .i64 a0] w fun e w' => e = .returned (.int .i64 r) ∧ Drawn0 w w' := by
  have H : (if a0 ≥ 128 then (trestleref01_bytes.j0 k a0 (1 + 1)) else (trestleref01_bytes.j0 k a0 1)) = some r := h
  clear h
  have HC2 := Aside0.mk H
  clear H
  go_enter Tryd.func46, Tryd.ntmps46
  go_upto_if 5 with (fail)
  go_cut [3] (fun v3 wc => ∃ (kq : Nat) (x3_1 : Int), v3 = .int .i64 x3_1 ∧ Aside0 (trestleref01_bytes.j0 kq a0 x3_1 = some r) ∧ Aside0 (kq ≤ k) ∧ Drawn0 w wc)
  case first =>
    have H := HC2.out
    clear HC2
    by_cases c3 : a0 ≥ 128
    · rw [if_pos c3] at H
      have c3b0 : decide (128 ≤ a0) = true := decide_eq_true c3
      clear c3
      (first | rw [c3b0] | (simp only [i64_w, i32_w]; rw [c3b0]) | skip)
      have H' := Aside0.mk H
      clear H
      go_wp2
      go_meet
      case rel => exact ⟨_, (1 + 1), (by first | rfl | (simp; done) | (simp [*]; done)), H', ⟨by first | omega | exact Nat.le_refl _⟩, by repeat (first | exact Drawn0.refl _ | apply Drawn0.step)⟩
    · rw [if_neg c3] at H
      have c3b0 : decide (128 ≤ a0) = false := decide_eq_false c3
      clear c3
      (first | rw [c3b0] | (simp only [i64_w, i32_w]; rw [c3b0]) | skip)
      have H' := Aside0.mk H
      clear H
      go_wp2
      go_meet
      case rel => exact ⟨_, (1), (by first | rfl | (simp; done) | (simp [*]; done)), H', ⟨by first | omega | exact Nat.le_refl _⟩, by repeat (first | exact Drawn0.refl _ | apply Drawn0.step)⟩
  case rest =>
    clear HC2
    try clear p2
    try clear c3
    try clear c3b0
    obtain ⟨kq, x3_1, rfl, HA, HJ1, ⟨mc1, rfl⟩⟩ := hcut
    cases kq with
    | zero => exact absurd HA.out (by simp [trestleref01_bytes.j0])
    | succ kj1 =>
      have H := HA.out
      clear HA
      simp only [trestleref01_bytes.j0] at H
      by_cases c4 : a0 ≥ 2048
      · rw [if_pos c4] at H
        have c4b0 : decide (2048 ≤ a0) = true := decide_eq_true c4
        clear c4
        by_cases c5 : a0 ≥ 65536
        · rw [if_pos c5] at H
          have c5b0 : decide (65536 ≤ a0) = true := decide_eq_true c5
          clear c5
          obtain rfl := Option.some.inj H
          go_wp2
          go_ret
          exact ⟨by first | rfl | (simp; done) | (simp [*]; done), by repeat (first | exact Drawn0.refl _ | apply Drawn0.step)⟩
        · rw [if_neg c5] at H
          have c5b0 : decide (65536 ≤ a0) = false := decide_eq_false c5
          clear c5
          obtain rfl := Option.some.inj H
          go_wp2
          go_ret
          exact ⟨by first | rfl | (simp; done) | (simp [*]; done), by repeat (first | exact Drawn0.refl _ | apply Drawn0.step)⟩
      · rw [if_neg c4] at H
        have c4b0 : decide (2048 ≤ a0) = false := decide_eq_false c4
        clear c4
        by_cases c6 : a0 ≥ 65536
        · rw [if_pos c6] at H
          have c6b0 : decide (65536 ≤ a0) = true := decide_eq_true c6
          clear c6
          obtain rfl := Option.some.inj H
          go_wp2
          go_ret
          exact ⟨by first | rfl | (simp; done) | (simp [*]; done), by repeat (first | exact Drawn0.refl _ | apply Drawn0.step)⟩
        · rw [if_neg c6] at H
          have c6b0 : decide (65536 ≤ a0) = false := decide_eq_false c6
          clear c6
          obtain rfl := Option.some.inj H
          go_wp2
          go_ret
          exact ⟨by first | rfl | (simp; done) | (simp [*]; done), by repeat (first | exact Drawn0.refl _ | apply Drawn0.step)⟩

end Go.Proofs.YtlmmhlabacghnaaDoor.PR
