-- Written by a program of this session's (the kit's print, turned), out of the translation.
import Derived.Test.YtlmmhlabacghnaaDoorPRx0
import Derived.Test.YtlmmhlabacghnaaDoorPRx8
namespace Go.Proofs.YtlmmhlabacghnaaDoor.PR
open Go.RowKit Go.Proofs.YtlmmhlabacghnaaDoorW.PrintWords Go.Proofs.YtlmmhlabacghnaaDoorW.PrintLast Go.Proofs.YtlmmhlabacghnaaDoorW.PrintMore
attribute [local go_sem] max2_int min2_int max_two min_two max_three min_three max_four min_four   -- for this text's walks alone
set_option linter.unusedVariables false
set_option linter.unusedSimpArgs false

/-! ### trestleref01_Part: function 27 -/
def trestleref01_Part.f (k : Nat) (a0 : ByteArray) (a1 : Int) (a2 : Int) : Option (ByteArray) := (trestleref01_List.f k a0).bind fun t165 => (if (mx a1 0) ≥ (mn a2 (t165.length : Int)) then (some (⟨#[]⟩ : ByteArray)) else (if 0 ≤ (mx a1 0) then (if (mx a1 0) < (t165.length : Int) then (if 0 ≤ (wrap64 ((mn a2 (t165.length : Int)) - 1)) then (if (wrap64 ((mn a2 (t165.length : Int)) - 1)) < (t165.length : Int) then (if 0 ≤ ((rd_T32 t165 (mx a1 0)).f0) then (if ((rd_T32 t165 (mx a1 0)).f0) ≤ (wrap64 (((rd_T32 t165 (wrap64 ((mn a2 (t165.length : Int)) - 1))).f0) + ((rd_T32 t165 (wrap64 ((mn a2 (t165.length : Int)) - 1))).f1))) then (if (wrap64 (((rd_T32 t165 (wrap64 ((mn a2 (t165.length : Int)) - 1))).f0) + ((rd_T32 t165 (wrap64 ((mn a2 (t165.length : Int)) - 1))).f1))) ≤ (a0.size : Int) then (some (a0.extract (((rd_T32 t165 (mx a1 0)).f0) : Int).toNat ((wrap64 (((rd_T32 t165 (wrap64 ((mn a2 (t165.length : Int)) - 1))).f0) + ((rd_T32 t165 (wrap64 ((mn a2 (t165.length : Int)) - 1))).f1))) : Int).toNat)) else (none)) else (none)) else (none)) else (none)) else (none)) else (none)) else (none)))
theorem trestleref01_Part.mono : ∀ a0 a1 a2 k, LeO (trestleref01_Part.f k a0 a1 a2) (trestleref01_Part.f (k + 1) a0 a1 a2) := by
  intro a0 a1 a2 k
  unfold trestleref01_Part.f
  repeat' first
      | (with_reducible exact trestleref01_List.mono _ _)
      | (with_reducible exact LeO.refl _)
      | (with_reducible exact LeO.none _)
      | (with_reducible refine LeO.ite ?_ ?_)
      | (with_reducible refine LeO.bind ?_ (fun _ => ?_))
      | exact trestleref01_List.mono _ _
      | exact LeO.none _
      | refine LeO.ite ?_ ?_
      | refine LeO.bind ?_ (fun _ => ?_)
set_option maxHeartbeats 8000000 in
set_option maxRecDepth 100000 in
theorem trestleref01_Part.calls (k : Nat) (a0 : ByteArray) (a1 : Int) (a2 : Int) (r : ByteArray) (w : World) (h : trestleref01_Part.f k a0 a1 a2 = some r) :
    Calls Tryd.prog 27 #[.string a0, .int .i64 a1, .int .i64 a2] w fun e w' => e = .returned (.string r) ∧ Below w.heap.size w w' := by
  have HB := Aside0.mk (Below.refl w.heap.size w)
  have H : ((trestleref01_List.f k a0).bind fun t165 => (if (mx a1 0) ≥ (mn a2 (t165.length : Int)) then (some (⟨#[]⟩ : ByteArray)) else (if 0 ≤ (mx a1 0) then (if (mx a1 0) < (t165.length : Int) then (if 0 ≤ (wrap64 ((mn a2 (t165.length : Int)) - 1)) then (if (wrap64 ((mn a2 (t165.length : Int)) - 1)) < (t165.length : Int) then (if 0 ≤ ((rd_T32 t165 (mx a1 0)).f0) then (if ((rd_T32 t165 (mx a1 0)).f0) ≤ (wrap64 (((rd_T32 t165 (wrap64 ((mn a2 (t165.length : Int)) - 1))).f0) + ((rd_T32 t165 (wrap64 ((mn a2 (t165.length : Int)) - 1))).f1))) then (if (wrap64 (((rd_T32 t165 (wrap64 ((mn a2 (t165.length : Int)) - 1))).f0) + ((rd_T32 t165 (wrap64 ((mn a2 (t165.length : Int)) - 1))).f1))) ≤ (a0.size : Int) then (some (a0.extract (((rd_T32 t165 (mx a1 0)).f0) : Int).toNat ((wrap64 (((rd_T32 t165 (wrap64 ((mn a2 (t165.length : Int)) - 1))).f0) + ((rd_T32 t165 (wrap64 ((mn a2 (t165.length : Int)) - 1))).f1))) : Int).toNat)) else (none)) else (none)) else (none)) else (none)) else (none)) else (none)) else (none)))) = some r := h
  clear h
  replace H := Option.bind_eq_some_iff.mp H
  obtain ⟨t165, A40, H⟩ := H
  replace H : (if (mx a1 0) ≥ (mn a2 (t165.length : Int)) then (some (⟨#[]⟩ : ByteArray)) else (if 0 ≤ (mx a1 0) then (if (mx a1 0) < (t165.length : Int) then (if 0 ≤ (wrap64 ((mn a2 (t165.length : Int)) - 1)) then (if (wrap64 ((mn a2 (t165.length : Int)) - 1)) < (t165.length : Int) then (if 0 ≤ ((rd_T32 t165 (mx a1 0)).f0) then (if ((rd_T32 t165 (mx a1 0)).f0) ≤ (wrap64 (((rd_T32 t165 (wrap64 ((mn a2 (t165.length : Int)) - 1))).f0) + ((rd_T32 t165 (wrap64 ((mn a2 (t165.length : Int)) - 1))).f1))) then (if (wrap64 (((rd_T32 t165 (wrap64 ((mn a2 (t165.length : Int)) - 1))).f0) + ((rd_T32 t165 (wrap64 ((mn a2 (t165.length : Int)) - 1))).f1))) ≤ (a0.size : Int) then (some (a0.extract (((rd_T32 t165 (mx a1 0)).f0) : Int).toNat ((wrap64 (((rd_T32 t165 (wrap64 ((mn a2 (t165.length : Int)) - 1))).f0) + ((rd_T32 t165 (wrap64 ((mn a2 (t165.length : Int)) - 1))).f1))) : Int).toNat)) else (none)) else (none)) else (none)) else (none)) else (none)) else (none)) else (none))) = some r := H
  have A4 := Aside0.mk A40
  clear A40
  obtain ⟨ji5, hji5⟩ : ∃ j_ : Int, (mx a1 0) = j_ := ⟨_, rfl⟩
  replace H : (if (ji5) ≥ (mn a2 (t165.length : Int)) then (some (⟨#[]⟩ : ByteArray)) else (if 0 ≤ (ji5) then (if (ji5) < (t165.length : Int) then (if 0 ≤ (wrap64 ((mn a2 (t165.length : Int)) - 1)) then (if (wrap64 ((mn a2 (t165.length : Int)) - 1)) < (t165.length : Int) then (if 0 ≤ ((rd_T32 t165 (ji5)).f0) then (if ((rd_T32 t165 (ji5)).f0) ≤ (wrap64 (((rd_T32 t165 (wrap64 ((mn a2 (t165.length : Int)) - 1))).f0) + ((rd_T32 t165 (wrap64 ((mn a2 (t165.length : Int)) - 1))).f1))) then (if (wrap64 (((rd_T32 t165 (wrap64 ((mn a2 (t165.length : Int)) - 1))).f0) + ((rd_T32 t165 (wrap64 ((mn a2 (t165.length : Int)) - 1))).f1))) ≤ (a0.size : Int) then (some (a0.extract (((rd_T32 t165 (ji5)).f0) : Int).toNat ((wrap64 (((rd_T32 t165 (wrap64 ((mn a2 (t165.length : Int)) - 1))).f0) + ((rd_T32 t165 (wrap64 ((mn a2 (t165.length : Int)) - 1))).f1))) : Int).toNat)) else (none)) else (none)) else (none)) else (none)) else (none)) else (none)) else (none))) = some r := by first | (rw [hji5] at H; exact H) | (simp only [hji5] at H ⊢; exact H)
  (try rw [hji5] at A4)
  (try (have hji5l : 0 ≤ ji5 := by (rw [← hji5]; unfold mx; (repeat' split) <;> omega)))
  (try (have hji5m : 0 ≤ ji5 := by omega))
  have hji5_ : (if a1 < 0 then 0 else a1) = ji5 := hji5
  obtain ⟨ji6, hji6⟩ : ∃ j_ : Int, (mn a2 (t165.length : Int)) = j_ := ⟨_, rfl⟩
  replace H : (if (ji5) ≥ (ji6) then (some (⟨#[]⟩ : ByteArray)) else (if 0 ≤ (ji5) then (if (ji5) < (t165.length : Int) then (if 0 ≤ (wrap64 ((ji6) - 1)) then (if (wrap64 ((ji6) - 1)) < (t165.length : Int) then (if 0 ≤ ((rd_T32 t165 (ji5)).f0) then (if ((rd_T32 t165 (ji5)).f0) ≤ (wrap64 (((rd_T32 t165 (wrap64 ((ji6) - 1))).f0) + ((rd_T32 t165 (wrap64 ((ji6) - 1))).f1))) then (if (wrap64 (((rd_T32 t165 (wrap64 ((ji6) - 1))).f0) + ((rd_T32 t165 (wrap64 ((ji6) - 1))).f1))) ≤ (a0.size : Int) then (some (a0.extract (((rd_T32 t165 (ji5)).f0) : Int).toNat ((wrap64 (((rd_T32 t165 (wrap64 ((ji6) - 1))).f0) + ((rd_T32 t165 (wrap64 ((ji6) - 1))).f1))) : Int).toNat)) else (none)) else (none)) else (none)) else (none)) else (none)) else (none)) else (none))) = some r := by first | (rw [hji6] at H; exact H) | (simp only [hji6] at H ⊢; exact H)
  (try rw [hji6] at A4)
  have hji6_ : (if (t165.length : Int) < a2 then (t165.length : Int) else a2) = ji6 := hji6
  by_cases c7 : (ji5) ≥ (ji6)
  · rw [if_pos c7] at H
    have c7b0 : decide ((ji6) ≤ (ji5)) = true := decide_eq_true c7
    clear c7
    obtain rfl := Option.some.inj H
    go_enter Tryd.func27, Tryd.ntmps27
    go_wp2_with (first | (go_at_call 39; (with_reducible refine (trestleref01_List.calls k a0 t165 _ A4.out).mono ?_); rintro e w8 ⟨v166, rfl, ho0, hb⟩; have n0_ := Aside0.mk (Kd.R_lower ho0 (below_size (by repeat (first | (with_reducible first | exact HB.out | apply below_alloc | apply pw_below_drewN | apply below_drew1) | exact HB.out)))); have n1_ := Aside0.mk (below_step (by repeat (first | (with_reducible first | exact HB.out | apply below_alloc | apply pw_below_drewN | apply below_drew1) | exact HB.out)) hb); clear HB; have HO167 := n0_; have HB := n1_; clear n0_ n1_; (try clear hb); (try clear hb2); (try clear hk); (try clear hi); (try clear ho0); obtain ⟨Ao9, co9, eo9⟩ := Kd.R_slice HO167.out; subst eo9))
    repeat (go_quiet (first | (go_at_call 39; (with_reducible refine (trestleref01_List.calls k a0 t165 _ A4.out).mono ?_); rintro e w8 ⟨v166, rfl, ho0, hb⟩; have n0_ := Aside0.mk (Kd.R_lower ho0 (below_size (by repeat (first | (with_reducible first | exact HB.out | apply below_alloc | apply pw_below_drewN | apply below_drew1) | exact HB.out)))); have n1_ := Aside0.mk (below_step (by repeat (first | (with_reducible first | exact HB.out | apply below_alloc | apply pw_below_drewN | apply below_drew1) | exact HB.out)) hb); clear HB; have HO167 := n0_; have HB := n1_; clear n0_ n1_; (try clear hb); (try clear hb2); (try clear hk); (try clear hi); (try clear ho0); obtain ⟨Ao9, co9, eo9⟩ := Kd.R_slice HO167.out; subst eo9)); try go_wp2_with (first | (go_at_call 39; (with_reducible refine (trestleref01_List.calls k a0 t165 _ A4.out).mono ?_); rintro e w8 ⟨v166, rfl, ho0, hb⟩; have n0_ := Aside0.mk (Kd.R_lower ho0 (below_size (by repeat (first | (with_reducible first | exact HB.out | apply below_alloc | apply pw_below_drewN | apply below_drew1) | exact HB.out)))); have n1_ := Aside0.mk (below_step (by repeat (first | (with_reducible first | exact HB.out | apply below_alloc | apply pw_below_drewN | apply below_drew1) | exact HB.out)) hb); clear HB; have HO167 := n0_; have HB := n1_; clear n0_ n1_; (try clear hb); (try clear hb2); (try clear hk); (try clear hi); (try clear ho0); obtain ⟨Ao9, co9, eo9⟩ := Kd.R_slice HO167.out; subst eo9)))
    go_ret
    exact ⟨by first | rfl | (simp [errW_none, errW_some] <;> rfl) | (simp only [← hji5, ← hji6]; first | rfl | (simp [errW_none, errW_some] <;> rfl)) | (simp [*, errW_none, errW_some] <;> rfl), by repeat (first | (with_reducible first | exact HB.out | apply below_alloc | apply pw_below_drewN | apply below_drew1) | exact HB.out)⟩
  · rw [if_neg c7] at H
    have c7b0 : decide ((ji6) ≤ (ji5)) = false := decide_eq_false c7
    clear c7
    by_cases c10 : 0 ≤ (ji5)
    · rw [if_pos c10] at H
      have c10b0 : decide (0 ≤ (ji5)) = true := decide_eq_true c10
      clear c10
      by_cases c11 : (ji5) < (t165.length : Int)
      · rw [if_pos c11] at H
        have c11b0 : decide ((ji5) < (t165.length : Int)) = true := decide_eq_true c11
        clear c11
        obtain ⟨ji12, hji12⟩ : ∃ j_ : Int, (wrap64 ((ji6) - 1)) = j_ := ⟨_, rfl⟩
        replace H : (if 0 ≤ (ji12) then (if (ji12) < (t165.length : Int) then (if 0 ≤ ((rd_T32 t165 (ji5)).f0) then (if ((rd_T32 t165 (ji5)).f0) ≤ (wrap64 (((rd_T32 t165 (ji12)).f0) + ((rd_T32 t165 (ji12)).f1))) then (if (wrap64 (((rd_T32 t165 (ji12)).f0) + ((rd_T32 t165 (ji12)).f1))) ≤ (a0.size : Int) then (some (a0.extract (((rd_T32 t165 (ji5)).f0) : Int).toNat ((wrap64 (((rd_T32 t165 (ji12)).f0) + ((rd_T32 t165 (ji12)).f1))) : Int).toNat)) else (none)) else (none)) else (none)) else (none)) else (none)) = some r := by first | (rw [hji12] at H; exact H) | (simp only [hji12] at H ⊢; exact H)
        (try rw [hji12] at A4)
        have hji12w : (IntKind.i64.wrap ((ji6) - 1)) = ji12 := (i64_w _).trans hji12
        by_cases c13 : 0 ≤ (ji12)
        · rw [if_pos c13] at H
          have c13b0 : decide (0 ≤ (ji12)) = true := decide_eq_true c13
          clear c13
          by_cases c14 : (ji12) < (t165.length : Int)
          · rw [if_pos c14] at H
            have c14b0 : decide ((ji12) < (t165.length : Int)) = true := decide_eq_true c14
            clear c14
            by_cases c15 : 0 ≤ ((rd_T32 t165 (ji5)).f0)
            · rw [if_pos c15] at H
              have c15b0 := eq_true c15
              have c15b1 : decide (0 ≤ ((rd_T32 t165 (ji5)).f0)) = true := decide_eq_true c15
              clear c15
              by_cases c16 : ((rd_T32 t165 (ji5)).f0) ≤ (wrap64 (((rd_T32 t165 (ji12)).f0) + ((rd_T32 t165 (ji12)).f1)))
              · rw [if_pos c16] at H
                have c16b0 := eq_true c16
                have c16b1 : decide (((rd_T32 t165 (ji5)).f0) ≤ (wrap64 (((rd_T32 t165 (ji12)).f0) + ((rd_T32 t165 (ji12)).f1)))) = true := decide_eq_true c16
                by_cases c17 : (wrap64 (((rd_T32 t165 (ji12)).f0) + ((rd_T32 t165 (ji12)).f1))) ≤ (a0.size : Int)
                · rw [if_pos c17] at H
                  have c17b0 := eq_true c17
                  have c17b1 : decide ((wrap64 (((rd_T32 t165 (ji12)).f0) + ((rd_T32 t165 (ji12)).f1))) ≤ (a0.size : Int)) = true := decide_eq_true c17
                  obtain rfl := Option.some.inj H
                  go_enter Tryd.func27, Tryd.ntmps27
                  go_wp2_with (first | (go_at_call 39; (with_reducible refine (trestleref01_List.calls k a0 t165 _ A4.out).mono ?_); rintro e w18 ⟨v166, rfl, ho0, hb⟩; have n0_ := Aside0.mk (Kd.R_lower ho0 (below_size (by repeat (first | (with_reducible first | exact HB.out | apply below_alloc | apply pw_below_drewN | apply below_drew1) | exact HB.out)))); have n1_ := Aside0.mk (below_step (by repeat (first | (with_reducible first | exact HB.out | apply below_alloc | apply pw_below_drewN | apply below_drew1) | exact HB.out)) hb); clear HB; have HO167 := n0_; have HB := n1_; clear n0_ n1_; (try clear hb); (try clear hb2); (try clear hk); (try clear hi); (try clear ho0); obtain ⟨Ao19, co19, eo19⟩ := Kd.R_slice HO167.out; subst eo19; have p168 : 0 ≤ ((ji5) : Int) := of_decide_eq_true (by first | (with_reducible assumption) | assumption); have q168 : (ji5) < (t165.length : Int) := of_decide_eq_true (by first | (with_reducible assumption) | assumption); obtain ⟨ad168, e168, hx168_0, hx168_1, hx168_2⟩ := at_T32 (Kd.R_reads' HO167.out).2.2 (ji5) p168 q168; cases e168; replace p168 := eq_true p168; replace q168 := eq_true q168; have p169 : 0 ≤ ((ji12) : Int) := of_decide_eq_true (by first | (with_reducible assumption) | assumption); have q169 : (ji12) < (t165.length : Int) := of_decide_eq_true (by first | (with_reducible assumption) | assumption); obtain ⟨ad169, e169, hx169_0, hx169_1, hx169_2⟩ := at_T32 (Kd.R_reads' HO167.out).2.2 (ji12) p169 q169; obtain rfl : ad168 = ad169 := (by injection e169); replace p169 := eq_true p169; replace q169 := eq_true q169; have p170 : 0 ≤ ((ji12) : Int) := of_decide_eq_true (by first | (with_reducible assumption) | assumption); have q170 : (ji12) < (t165.length : Int) := of_decide_eq_true (by first | (with_reducible assumption) | assumption); obtain ⟨ad170, e170, hx170_0, hx170_1, hx170_2⟩ := at_T32 (Kd.R_reads' HO167.out).2.2 (ji12) p170 q170; obtain rfl : ad168 = ad170 := (by injection e170); replace p170 := eq_true p170; replace q170 := eq_true q170))
                  repeat (go_quiet (first | (go_at_call 39; (with_reducible refine (trestleref01_List.calls k a0 t165 _ A4.out).mono ?_); rintro e w18 ⟨v166, rfl, ho0, hb⟩; have n0_ := Aside0.mk (Kd.R_lower ho0 (below_size (by repeat (first | (with_reducible first | exact HB.out | apply below_alloc | apply pw_below_drewN | apply below_drew1) | exact HB.out)))); have n1_ := Aside0.mk (below_step (by repeat (first | (with_reducible first | exact HB.out | apply below_alloc | apply pw_below_drewN | apply below_drew1) | exact HB.out)) hb); clear HB; have HO167 := n0_; have HB := n1_; clear n0_ n1_; (try clear hb); (try clear hb2); (try clear hk); (try clear hi); (try clear ho0); obtain ⟨Ao19, co19, eo19⟩ := Kd.R_slice HO167.out; subst eo19; have p168 : 0 ≤ ((ji5) : Int) := of_decide_eq_true (by first | (with_reducible assumption) | assumption); have q168 : (ji5) < (t165.length : Int) := of_decide_eq_true (by first | (with_reducible assumption) | assumption); obtain ⟨ad168, e168, hx168_0, hx168_1, hx168_2⟩ := at_T32 (Kd.R_reads' HO167.out).2.2 (ji5) p168 q168; cases e168; replace p168 := eq_true p168; replace q168 := eq_true q168; have p169 : 0 ≤ ((ji12) : Int) := of_decide_eq_true (by first | (with_reducible assumption) | assumption); have q169 : (ji12) < (t165.length : Int) := of_decide_eq_true (by first | (with_reducible assumption) | assumption); obtain ⟨ad169, e169, hx169_0, hx169_1, hx169_2⟩ := at_T32 (Kd.R_reads' HO167.out).2.2 (ji12) p169 q169; obtain rfl : ad168 = ad169 := (by injection e169); replace p169 := eq_true p169; replace q169 := eq_true q169; have p170 : 0 ≤ ((ji12) : Int) := of_decide_eq_true (by first | (with_reducible assumption) | assumption); have q170 : (ji12) < (t165.length : Int) := of_decide_eq_true (by first | (with_reducible assumption) | assumption); obtain ⟨ad170, e170, hx170_0, hx170_1, hx170_2⟩ := at_T32 (Kd.R_reads' HO167.out).2.2 (ji12) p170 q170; obtain rfl : ad168 = ad170 := (by injection e170); replace p170 := eq_true p170; replace q170 := eq_true q170)); try go_wp2_with (first | (go_at_call 39; (with_reducible refine (trestleref01_List.calls k a0 t165 _ A4.out).mono ?_); rintro e w18 ⟨v166, rfl, ho0, hb⟩; have n0_ := Aside0.mk (Kd.R_lower ho0 (below_size (by repeat (first | (with_reducible first | exact HB.out | apply below_alloc | apply pw_below_drewN | apply below_drew1) | exact HB.out)))); have n1_ := Aside0.mk (below_step (by repeat (first | (with_reducible first | exact HB.out | apply below_alloc | apply pw_below_drewN | apply below_drew1) | exact HB.out)) hb); clear HB; have HO167 := n0_; have HB := n1_; clear n0_ n1_; (try clear hb); (try clear hb2); (try clear hk); (try clear hi); (try clear ho0); obtain ⟨Ao19, co19, eo19⟩ := Kd.R_slice HO167.out; subst eo19; have p168 : 0 ≤ ((ji5) : Int) := of_decide_eq_true (by first | (with_reducible assumption) | assumption); have q168 : (ji5) < (t165.length : Int) := of_decide_eq_true (by first | (with_reducible assumption) | assumption); obtain ⟨ad168, e168, hx168_0, hx168_1, hx168_2⟩ := at_T32 (Kd.R_reads' HO167.out).2.2 (ji5) p168 q168; cases e168; replace p168 := eq_true p168; replace q168 := eq_true q168; have p169 : 0 ≤ ((ji12) : Int) := of_decide_eq_true (by first | (with_reducible assumption) | assumption); have q169 : (ji12) < (t165.length : Int) := of_decide_eq_true (by first | (with_reducible assumption) | assumption); obtain ⟨ad169, e169, hx169_0, hx169_1, hx169_2⟩ := at_T32 (Kd.R_reads' HO167.out).2.2 (ji12) p169 q169; obtain rfl : ad168 = ad169 := (by injection e169); replace p169 := eq_true p169; replace q169 := eq_true q169; have p170 : 0 ≤ ((ji12) : Int) := of_decide_eq_true (by first | (with_reducible assumption) | assumption); have q170 : (ji12) < (t165.length : Int) := of_decide_eq_true (by first | (with_reducible assumption) | assumption); obtain ⟨ad170, e170, hx170_0, hx170_1, hx170_2⟩ := at_T32 (Kd.R_reads' HO167.out).2.2 (ji12) p170 q170; obtain rfl : ad168 = ad170 := (by injection e170); replace p170 := eq_true p170; replace q170 := eq_true q170)))
                  go_ret
                  exact ⟨by first | rfl | (simp [errW_none, errW_some] <;> rfl) | (simp only [← hji5, ← hji6, ← hji12]; first | rfl | (simp [errW_none, errW_some] <;> rfl)) | (simp [*, errW_none, errW_some] <;> rfl), by repeat (first | (with_reducible first | exact HB.out | apply below_alloc | apply pw_below_drewN | apply below_drew1) | exact HB.out)⟩
                · rw [if_neg c17] at H
                  exact absurd H (by simp)
              · rw [if_neg c16] at H
                exact absurd H (by simp)
            · rw [if_neg c15] at H
              exact absurd H (by simp)
          · rw [if_neg c14] at H
            exact absurd H (by simp)
        · rw [if_neg c13] at H
          exact absurd H (by simp)
      · rw [if_neg c11] at H
        exact absurd H (by simp)
    · rw [if_neg c10] at H
      exact absurd H (by simp)

end Go.Proofs.YtlmmhlabacghnaaDoor.PR
