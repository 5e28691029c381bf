-- Written by a program of this session's (the kit's print, turned), out of the translation.
import Derived.Test.YtlmmhlabacghnaaDoorPRx0
import Derived.Test.YtlmmhlabacghnaaDoorPRx14
import Derived.Test.YtlmmhlabacghnaaDoorPRx15
import Derived.Test.YtlmmhlabacghnaaDoorPRx16
import Derived.Test.YtlmmhlabacghnaaDoorPRx18
import Derived.Test.YtlmmhlabacghnaaDoorPRx19
import Derived.Test.YtlmmhlabacghnaaDoorDec
namespace Go.Proofs.YtlmmhlabacghnaaDoor.PR
open Go.RowKit Go.Proofs.YtlmmhlabacghnaaDoorW.PrintWords Go.Proofs.YtlmmhlabacghnaaDoorW.PrintLast Go.Proofs.YtlmmhlabacghnaaDoorW.PrintMore
attribute [local go_sem] max2_int min2_int max_two min_two max_three min_three max_four min_four   -- for this text's walks alone
set_option linter.unusedVariables false
set_option linter.unusedSimpArgs false

/-! ### trestlelaw17_UtflibOffsets: function 7 -/
def trestlelaw17_UtflibOffsets.j0 : Nat → ByteArray → Int → Bool → Option (Bool)
  | 0, _, _, _ => none
  | k + 1, x0, x2, x51 => if x51 = true then (some false) else ((utflib_Step.f k x0 x2).bind fun bt271 => ((trestleref17_Step.f k x0 x2).bind fun bt275 => (if bt271.1 = bt275.1 then (if bt271.2.1 = bt275.2.1 then (if (bt271.2.2.1 == bt275.2.2.1) = true then (some (bt271.2.2.2 == bt275.2.2.2)) else (some false)) else (some false)) else (some false))))
def trestlelaw17_UtflibOffsets.f (k : Nat) (a0 : ByteArray) (a1 : Int) (a2 : Int) : Option (Bool) := (utflib_Offset.f k a0 a1 a2).bind fun bt264 => ((trestleref17_Offset.f k a0 a1 a2).bind fun bt267 => ((trestlelaw17_fixed.f k).bind fun t270 => (if t270 = true then (if bt264.1 = bt267.1 then (if (bt264.2.1 != bt267.2.1) = true then (trestlelaw17_UtflibOffsets.j0 k a0 a2 true) else (trestlelaw17_UtflibOffsets.j0 k a0 a2 (bt264.2.2 != bt267.2.2))) else (trestlelaw17_UtflibOffsets.j0 k a0 a2 true)) else (trestlelaw17_UtflibOffsets.j0 k a0 a2 true))))
theorem trestlelaw17_UtflibOffsets.mono_l : ∀ k, (∀ y0 y1 y2, LeO (trestlelaw17_UtflibOffsets.j0 k y0 y1 y2) (trestlelaw17_UtflibOffsets.j0 (k + 1) y0 y1 y2))
  | 0 => fun _ _ _ r h => by simp [trestlelaw17_UtflibOffsets.j0] at h
  | k + 1 => by
    have ih0 := trestlelaw17_UtflibOffsets.mono_l k
    · intro y0 y1 y2
      unfold trestlelaw17_UtflibOffsets.j0
      repeat' first
      | (with_reducible exact ih0 _ _ _)
      | (with_reducible exact trestlelaw17_fixed.mono _)
      | (with_reducible exact trestleref17_Offset.mono _ _ _ _)
      | (with_reducible exact trestleref17_Step.mono _ _ _)
      | (with_reducible exact utflib_Offset.mono _ _ _ _)
      | (with_reducible exact utflib_Step.mono _ _ _)
      | (with_reducible exact LeO.refl _)
      | (with_reducible exact LeO.none _)
      | (with_reducible refine LeO.ite ?_ ?_)
      | (with_reducible refine LeO.bind ?_ (fun _ => ?_))
      | exact ih0 _ _ _
      | exact trestlelaw17_fixed.mono _
      | exact trestleref17_Offset.mono _ _ _ _
      | exact trestleref17_Step.mono _ _ _
      | exact utflib_Offset.mono _ _ _ _
      | exact utflib_Step.mono _ _ _
      | exact LeO.none _
      | refine LeO.ite ?_ ?_
      | refine LeO.bind ?_ (fun _ => ?_)
theorem trestlelaw17_UtflibOffsets.mono : ∀ a0 a1 a2 k, LeO (trestlelaw17_UtflibOffsets.f k a0 a1 a2) (trestlelaw17_UtflibOffsets.f (k + 1) a0 a1 a2) := by
  intro a0 a1 a2 k
  have ih0 := trestlelaw17_UtflibOffsets.mono_l k
  unfold trestlelaw17_UtflibOffsets.f
  repeat' first
      | (with_reducible exact ih0 _ _ _)
      | (with_reducible exact trestlelaw17_fixed.mono _)
      | (with_reducible exact trestleref17_Offset.mono _ _ _ _)
      | (with_reducible exact trestleref17_Step.mono _ _ _)
      | (with_reducible exact utflib_Offset.mono _ _ _ _)
      | (with_reducible exact utflib_Step.mono _ _ _)
      | (with_reducible exact LeO.refl _)
      | (with_reducible exact LeO.none _)
      | (with_reducible refine LeO.ite ?_ ?_)
      | (with_reducible refine LeO.bind ?_ (fun _ => ?_))
      | exact ih0 _ _ _
      | exact trestlelaw17_fixed.mono _
      | exact trestleref17_Offset.mono _ _ _ _
      | exact trestleref17_Step.mono _ _ _
      | exact utflib_Offset.mono _ _ _ _
      | exact utflib_Step.mono _ _ _
      | exact LeO.none _
      | refine LeO.ite ?_ ?_
      | refine LeO.bind ?_ (fun _ => ?_)
set_option maxHeartbeats 8000000 in
set_option maxRecDepth 100000 in
theorem trestlelaw17_UtflibOffsets.calls (k : Nat) (a0 : ByteArray) (a1 : Int) (a2 : Int) (r : Bool) (w : World) (h : trestlelaw17_UtflibOffsets.f k a0 a1 a2 = some r) (HT_ : RowKit.Hid (Lib.Utf8Tabs 0 1 w)) :
    Calls Tryd.prog 7 #[.string a0, .int .i64 a1, .int .i64 a2] w fun e w' => e = .returned (.bool r) ∧ Below w.heap.size w w' := by
  have HB := Aside0.mk (Below.refl w.heap.size w)
  have H : ((utflib_Offset.f k a0 a1 a2).bind fun bt264 => ((trestleref17_Offset.f k a0 a1 a2).bind fun bt267 => ((trestlelaw17_fixed.f k).bind fun t270 => (if t270 = true then (if bt264.1 = bt267.1 then (if (bt264.2.1 != bt267.2.1) = true then (trestlelaw17_UtflibOffsets.j0 k a0 a2 true) else (trestlelaw17_UtflibOffsets.j0 k a0 a2 (bt264.2.2 != bt267.2.2))) else (trestlelaw17_UtflibOffsets.j0 k a0 a2 true)) else (trestlelaw17_UtflibOffsets.j0 k a0 a2 true))))) = some r := h
  clear h
  replace H := Option.bind_eq_some_iff.mp H
  obtain ⟨⟨t264, t265, t266⟩, A40, H⟩ := H
  replace H : ((trestleref17_Offset.f k a0 a1 a2).bind fun bt267 => ((trestlelaw17_fixed.f k).bind fun t270 => (if t270 = true then (if t264 = bt267.1 then (if (t265 != bt267.2.1) = true then (trestlelaw17_UtflibOffsets.j0 k a0 a2 true) else (trestlelaw17_UtflibOffsets.j0 k a0 a2 (t266 != bt267.2.2))) else (trestlelaw17_UtflibOffsets.j0 k a0 a2 true)) else (trestlelaw17_UtflibOffsets.j0 k a0 a2 true)))) = some r := H
  have A4 := Aside0.mk A40
  clear A40
  replace H := Option.bind_eq_some_iff.mp H
  obtain ⟨⟨t267, t268, t269⟩, A50, H⟩ := H
  replace H : ((trestlelaw17_fixed.f k).bind fun t270 => (if t270 = true then (if t264 = t267 then (if (t265 != t268) = true then (trestlelaw17_UtflibOffsets.j0 k a0 a2 true) else (trestlelaw17_UtflibOffsets.j0 k a0 a2 (t266 != t269))) else (trestlelaw17_UtflibOffsets.j0 k a0 a2 true)) else (trestlelaw17_UtflibOffsets.j0 k a0 a2 true))) = some r := H
  have A5 := Aside0.mk A50
  clear A50
  have HC6 := Aside0.mk H
  clear H
  go_enter Tryd.func7, Tryd.ntmps7
  go_upto_region 3 with (first | ((with_reducible refine gate_callee (f := 34) rfl ?_); refine goesL_ (some 23) rfl rfl Tryd.func34 (by kernel_rfl) rfl #[.string a0, .int .i64 a1, .int .i64 a2] rfl (by (try simp only [List.map_toArray, List.map_cons, List.map_nil]); first | done | rfl | (simp only [List.length_drop, List.length_take]; rfl)) ?_; (with_reducible refine (utflib_Offset.calls k a0 a1 a2 t264 t265 t266 _ A4.out).mono ?_); rintro e w' ⟨rfl, ⟨nd, rfl⟩⟩; refine ⟨_, rfl, ?_⟩) | ((with_reducible refine gate_callee (f := 35) rfl ?_); refine goesL_ (some 31) rfl rfl Tryd.func35 (by kernel_rfl) rfl #[.string a0, .int .i64 a1, .int .i64 a2] rfl (by (try simp only [List.map_toArray, List.map_cons, List.map_nil]); first | done | rfl | (simp only [List.length_drop, List.length_take]; rfl)) ?_; (with_reducible refine (trestleref17_Offset.calls k a0 a1 a2 t267 t268 t269 _ A5.out).mono ?_); rintro e w' ⟨rfl, ⟨nd, rfl⟩⟩; refine ⟨_, rfl, ?_⟩))
  (try simp only [Act.put, List.setIfInBounds_toArray, List.set_cons_zero, List.set_cons_succ])
  go_cut [51] (fun v51 wc => ∃ (kq : Nat) (x51_5 : Bool), v51 = .bool x51_5 ∧ Aside0 (trestlelaw17_UtflibOffsets.j0 kq a0 a2 x51_5 = some r) ∧ Aside0 (kq ≤ k) ∧ Aside0 (Below w.heap.size w wc))
  case first =>
    have H := HC6.out
    clear HC6
    replace H := Option.bind_eq_some_iff.mp H
    obtain ⟨t270, A70, H⟩ := H
    replace H : (if t270 = true then (if t264 = t267 then (if (t265 != t268) = true then (trestlelaw17_UtflibOffsets.j0 k a0 a2 true) else (trestlelaw17_UtflibOffsets.j0 k a0 a2 (t266 != t269))) else (trestlelaw17_UtflibOffsets.j0 k a0 a2 true)) else (trestlelaw17_UtflibOffsets.j0 k a0 a2 true)) = some r := H
    have A7 := Aside0.mk A70
    clear A70
    by_cases c8 : t270 = true
    · subst c8
      have H1 : (if t264 = t267 then (if (t265 != t268) = true then (trestlelaw17_UtflibOffsets.j0 k a0 a2 true) else (trestlelaw17_UtflibOffsets.j0 k a0 a2 (t266 != t269))) else (trestlelaw17_UtflibOffsets.j0 k a0 a2 true)) = some r := by rw [if_pos rfl] at H; exact H
      clear H
      have H := H1
      clear H1
      by_cases c9 : t264 = t267
      · rw [if_pos c9] at H
        have c9b0 : (t264 == t267) = true := beq_iff_eq.mpr c9
        have c9b1 : (t264 != t267) = false := bne_eq_false_iff_eq.mpr c9
        clear c9
        (first | rw [c9b0] | (simp only [i64_w, i32_w]; rw [c9b0]) | skip)
        by_cases c10 : (t265 != t268) = true
        · rw [if_pos c10] at H
          have c10b0 : (t265 != t268) = true := c10
          (try (have c10b1 : decide (t265 = t268) = false := by simpa using c10))
          (try (have c10b2 : (t265 == t268) = false := by simpa using c10))
          (try (have c10b3 : ¬ (t265 = t268) := by simpa using c10))
          clear c10
          have H' := Aside0.mk H
          clear H
          go_wp2_with (first | ((with_reducible refine gate_callee (f := 32) rfl ?_); refine goesL_ (some 35) rfl rfl Tryd.func32 (by kernel_rfl) rfl #[] rfl (by (try simp only [List.map_toArray, List.map_cons, List.map_nil]); first | done | rfl | (simp only [List.length_drop, List.length_take]; rfl)) ?_; (with_reducible refine (trestlelaw17_fixed.calls k  true _ A7.out ?hT_).mono ?_); (case hT_ => exact tab_step HT_ (by repeat (first | (with_reducible first | exact HB.out | apply below_alloc | apply pw_below_drewN | apply below_drew1) | exact HB.out))); rintro e w11 ⟨rfl, hb⟩; refine ⟨_, rfl, ?_⟩; have n0_ := Aside0.mk (below_step (by repeat (first | (with_reducible first | exact HB.out | apply below_alloc | apply pw_below_drewN | apply below_drew1) | exact HB.out)) hb); clear HB; have HB := n0_; clear n0_; (try clear hb); (try clear hb2); (try clear hk); (try clear hi)))
          go_meet
          case rel => exact ⟨_, (true), (by first | rfl | (simp; done) | (simp [*]; done)), H', ⟨by first | omega | exact Nat.le_refl _⟩, ⟨by repeat (first | (with_reducible first | exact HB.out | apply below_alloc | apply pw_below_drewN | apply below_drew1) | exact HB.out)⟩⟩
        · rw [if_neg c10] at H
          have c10b0 : (t265 != t268) = false := by simpa using c10
          (try (have c10b1 : decide (t265 = t268) = true := by simpa using c10))
          (try (have c10b2 : (t265 == t268) = true := by simpa using c10))
          clear c10
          have H' := Aside0.mk H
          clear H
          go_wp2_with (first | ((with_reducible refine gate_callee (f := 32) rfl ?_); refine goesL_ (some 35) rfl rfl Tryd.func32 (by kernel_rfl) rfl #[] rfl (by (try simp only [List.map_toArray, List.map_cons, List.map_nil]); first | done | rfl | (simp only [List.length_drop, List.length_take]; rfl)) ?_; (with_reducible refine (trestlelaw17_fixed.calls k  true _ A7.out ?hT_).mono ?_); (case hT_ => exact tab_step HT_ (by repeat (first | (with_reducible first | exact HB.out | apply below_alloc | apply pw_below_drewN | apply below_drew1) | exact HB.out))); rintro e w12 ⟨rfl, hb⟩; refine ⟨_, rfl, ?_⟩; have n0_ := Aside0.mk (below_step (by repeat (first | (with_reducible first | exact HB.out | apply below_alloc | apply pw_below_drewN | apply below_drew1) | exact HB.out)) hb); clear HB; have HB := n0_; clear n0_; (try clear hb); (try clear hb2); (try clear hk); (try clear hi)))
          go_meet
          case rel => exact ⟨_, ((t266 != t269)), (by first | rfl | (simp; done) | (simp [*]; done)), H', ⟨by first | omega | exact Nat.le_refl _⟩, ⟨by repeat (first | (with_reducible first | exact HB.out | apply below_alloc | apply pw_below_drewN | apply below_drew1) | exact HB.out)⟩⟩
      · rw [if_neg c9] at H
        have c9b0 : (t264 == t267) = false := beq_eq_false_iff_ne.mpr c9
        have c9b1 : (t264 != t267) = true := bne_iff_ne.mpr c9
        (first | rw [c9b0] | (simp only [i64_w, i32_w]; rw [c9b0]) | skip)
        have H' := Aside0.mk H
        clear H
        go_wp2_with (first | ((with_reducible refine gate_callee (f := 32) rfl ?_); refine goesL_ (some 35) rfl rfl Tryd.func32 (by kernel_rfl) rfl #[] rfl (by (try simp only [List.map_toArray, List.map_cons, List.map_nil]); first | done | rfl | (simp only [List.length_drop, List.length_take]; rfl)) ?_; (with_reducible refine (trestlelaw17_fixed.calls k  true _ A7.out ?hT_).mono ?_); (case hT_ => exact tab_step HT_ (by repeat (first | (with_reducible first | exact HB.out | apply below_alloc | apply pw_below_drewN | apply below_drew1) | exact HB.out))); rintro e w13 ⟨rfl, hb⟩; refine ⟨_, rfl, ?_⟩; have n0_ := Aside0.mk (below_step (by repeat (first | (with_reducible first | exact HB.out | apply below_alloc | apply pw_below_drewN | apply below_drew1) | exact HB.out)) hb); clear HB; have HB := n0_; clear n0_; (try clear hb); (try clear hb2); (try clear hk); (try clear hi)))
        go_meet
        case rel => exact ⟨_, (true), (by first | rfl | (simp; done) | (simp [*]; done)), H', ⟨by first | omega | exact Nat.le_refl _⟩, ⟨by repeat (first | (with_reducible first | exact HB.out | apply below_alloc | apply pw_below_drewN | apply below_drew1) | exact HB.out)⟩⟩
    · replace c8 := Bool.eq_false_iff.mpr c8
      subst c8
      have H1 : (trestlelaw17_UtflibOffsets.j0 k a0 a2 true) = some r := by rw [if_neg (show ¬ (false = true) by decide)] at H; exact H
      clear H
      have H := H1
      clear H1
      have H' := Aside0.mk H
      clear H
      go_wp2_with (first | ((with_reducible refine gate_callee (f := 32) rfl ?_); refine goesL_ (some 35) rfl rfl Tryd.func32 (by kernel_rfl) rfl #[] rfl (by (try simp only [List.map_toArray, List.map_cons, List.map_nil]); first | done | rfl | (simp only [List.length_drop, List.length_take]; rfl)) ?_; (with_reducible refine (trestlelaw17_fixed.calls k  false _ A7.out ?hT_).mono ?_); (case hT_ => exact tab_step HT_ (by repeat (first | (with_reducible first | exact HB.out | apply below_alloc | apply pw_below_drewN | apply below_drew1) | exact HB.out))); rintro e w14 ⟨rfl, hb⟩; refine ⟨_, rfl, ?_⟩; have n0_ := Aside0.mk (below_step (by repeat (first | (with_reducible first | exact HB.out | apply below_alloc | apply pw_below_drewN | apply below_drew1) | exact HB.out)) hb); clear HB; have HB := n0_; clear n0_; (try clear hb); (try clear hb2); (try clear hk); (try clear hi)))
      go_meet
      case rel => exact ⟨_, (true), (by first | rfl | (simp; done) | (simp [*]; done)), H', ⟨by first | omega | exact Nat.le_refl _⟩, ⟨by repeat (first | (with_reducible first | exact HB.out | apply below_alloc | apply pw_below_drewN | apply below_drew1) | exact HB.out)⟩⟩
  case rest =>
    clear HC6
    try clear c1
    try clear p2
    try clear c3
    try clear c7
    try clear c8
    try clear c9
    try clear c9b0
    try clear c9b1
    try clear c10
    try clear c10b0
    try clear c10b1
    try clear c10b2
    obtain ⟨kq, x51_5, rfl, HA, HJ5, HB⟩ := hcut
    cases kq with
    | zero => exact absurd HA.out (by simp [trestlelaw17_UtflibOffsets.j0])
    | succ kj5 =>
      have H := HA.out
      clear HA
      simp only [trestlelaw17_UtflibOffsets.j0] at H
      by_cases c15 : x51_5 = true
      · subst c15
        have H1 : (some false) = some r := by rw [if_pos rfl] at H; exact H
        clear H
        have H := H1
        clear H1
        obtain rfl := Option.some.inj H
        go_wp2
        go_ret
        exact ⟨by first | rfl | (simp [errW_none, errW_some] <;> rfl) | (simp [*, errW_none, errW_some] <;> rfl), by repeat (first | (with_reducible first | exact HB.out | apply below_alloc | apply pw_below_drewN | apply below_drew1) | exact HB.out)⟩
      · replace c15 := Bool.eq_false_iff.mpr c15
        subst c15
        have H1 : ((utflib_Step.f kj5 a0 a2).bind fun bt271 => ((trestleref17_Step.f kj5 a0 a2).bind fun bt275 => (if bt271.1 = bt275.1 then (if bt271.2.1 = bt275.2.1 then (if (bt271.2.2.1 == bt275.2.2.1) = true then (some (bt271.2.2.2 == bt275.2.2.2)) else (some false)) else (some false)) else (some false)))) = some r := by rw [if_neg (show ¬ (false = true) by decide)] at H; exact H
        clear H
        have H := H1
        clear H1
        replace H := Option.bind_eq_some_iff.mp H
        obtain ⟨⟨t271, t272, t273, t274⟩, A160, H⟩ := H
        replace H : ((trestleref17_Step.f kj5 a0 a2).bind fun bt275 => (if t271 = bt275.1 then (if t272 = bt275.2.1 then (if (t273 == bt275.2.2.1) = true then (some (t274 == bt275.2.2.2)) else (some false)) else (some false)) else (some false))) = some r := H
        have A16 := Aside0.mk A160
        clear A160
        replace H := Option.bind_eq_some_iff.mp H
        obtain ⟨⟨t275, t276, t277, t278⟩, A170, H⟩ := H
        replace H : (if t271 = t275 then (if t272 = t276 then (if (t273 == t277) = true then (some (t274 == t278)) else (some false)) else (some false)) else (some false)) = some r := H
        have A17 := Aside0.mk A170
        clear A170
        by_cases c18 : t271 = t275
        · rw [if_pos c18] at H
          have c18b0 : (t271 == t275) = true := beq_iff_eq.mpr c18
          have c18b1 : (t271 != t275) = false := bne_eq_false_iff_eq.mpr c18
          clear c18
          by_cases c19 : t272 = t276
          · rw [if_pos c19] at H
            have c19b0 : (t272 == t276) = true := beq_iff_eq.mpr c19
            have c19b1 : (t272 != t276) = false := bne_eq_false_iff_eq.mpr c19
            clear c19
            by_cases c20 : (t273 == t277) = true
            · rw [if_pos c20] at H
              have c20b0 : (t273 == t277) = true := c20
              (try (have c20b1 : decide (t273 = t277) = true := by simpa using c20))
              (try (have c20b2 : (t273 == t277) = true := by simpa using c20))
              clear c20
              obtain rfl := Option.some.inj H
              go_wp2_with (first | ((with_reducible refine gate_callee (f := 36) rfl ?_); refine goesL_ (some 55) rfl rfl Tryd.func36 (by kernel_rfl) rfl #[.string a0, .int .i64 a2] rfl (by (try simp only [List.map_toArray, List.map_cons, List.map_nil]); first | done | rfl | (simp only [List.length_drop, List.length_take]; rfl)) ?_; (with_reducible refine (utflib_Step.calls kj5 a0 a2 t271 t272 t273 t274 _ A16.out ?hT_).mono ?_); (case hT_ => exact tab_step HT_ (by repeat (first | (with_reducible first | exact HB.out | apply below_alloc | apply pw_below_drewN | apply below_drew1) | exact HB.out))); rintro e w21 ⟨rfl, hb⟩; refine ⟨_, rfl, ?_⟩; have n0_ := Aside0.mk (below_step (by repeat (first | (with_reducible first | exact HB.out | apply below_alloc | apply pw_below_drewN | apply below_drew1) | exact HB.out)) hb); clear HB; have HB := n0_; clear n0_; (try clear hb); (try clear hb2); (try clear hk); (try clear hi)) | ((with_reducible refine gate_callee (f := 37) rfl ?_); refine goesL_ (some 63) rfl rfl Tryd.func37 (by kernel_rfl) rfl #[.string a0, .int .i64 a2] rfl (by (try simp only [List.map_toArray, List.map_cons, List.map_nil]); first | done | rfl | (simp only [List.length_drop, List.length_take]; rfl)) ?_; (with_reducible refine (trestleref17_Step.calls kj5 a0 a2 t275 t276 t277 t278 _ A17.out).mono ?_); rintro e w22 ⟨rfl, hb⟩; refine ⟨_, rfl, ?_⟩; have n0_ := Aside0.mk (below_step (by repeat (first | (with_reducible first | exact HB.out | apply below_alloc | apply pw_below_drewN | apply below_drew1) | exact HB.out)) hb); clear HB; have HB := n0_; clear n0_; (try clear hb); (try clear hb2); (try clear hk); (try clear hi)))
              go_ret
              exact ⟨by first | rfl | (simp [errW_none, errW_some] <;> rfl) | (simp [*, errW_none, errW_some] <;> rfl), by repeat (first | (with_reducible first | exact HB.out | apply below_alloc | apply pw_below_drewN | apply below_drew1) | exact HB.out)⟩
            · rw [if_neg c20] at H
              have c20b0 : (t273 == t277) = false := by simpa using c20
              (try (have c20b1 : decide (t273 = t277) = false := by simpa using c20))
              (try (have c20b2 : (t273 == t277) = false := by simpa using c20))
              (try (have c20b3 : ¬ (t273 = t277) := by simpa using c20))
              clear c20
              obtain rfl := Option.some.inj H
              go_wp2_with (first | ((with_reducible refine gate_callee (f := 36) rfl ?_); refine goesL_ (some 55) rfl rfl Tryd.func36 (by kernel_rfl) rfl #[.string a0, .int .i64 a2] rfl (by (try simp only [List.map_toArray, List.map_cons, List.map_nil]); first | done | rfl | (simp only [List.length_drop, List.length_take]; rfl)) ?_; (with_reducible refine (utflib_Step.calls kj5 a0 a2 t271 t272 t273 t274 _ A16.out ?hT_).mono ?_); (case hT_ => exact tab_step HT_ (by repeat (first | (with_reducible first | exact HB.out | apply below_alloc | apply pw_below_drewN | apply below_drew1) | exact HB.out))); rintro e w23 ⟨rfl, hb⟩; refine ⟨_, rfl, ?_⟩; have n0_ := Aside0.mk (below_step (by repeat (first | (with_reducible first | exact HB.out | apply below_alloc | apply pw_below_drewN | apply below_drew1) | exact HB.out)) hb); clear HB; have HB := n0_; clear n0_; (try clear hb); (try clear hb2); (try clear hk); (try clear hi)) | ((with_reducible refine gate_callee (f := 37) rfl ?_); refine goesL_ (some 63) rfl rfl Tryd.func37 (by kernel_rfl) rfl #[.string a0, .int .i64 a2] rfl (by (try simp only [List.map_toArray, List.map_cons, List.map_nil]); first | done | rfl | (simp only [List.length_drop, List.length_take]; rfl)) ?_; (with_reducible refine (trestleref17_Step.calls kj5 a0 a2 t275 t276 t277 t278 _ A17.out).mono ?_); rintro e w24 ⟨rfl, hb⟩; refine ⟨_, rfl, ?_⟩; have n0_ := Aside0.mk (below_step (by repeat (first | (with_reducible first | exact HB.out | apply below_alloc | apply pw_below_drewN | apply below_drew1) | exact HB.out)) hb); clear HB; have HB := n0_; clear n0_; (try clear hb); (try clear hb2); (try clear hk); (try clear hi)))
              go_ret
              exact ⟨by first | rfl | (simp [errW_none, errW_some] <;> rfl) | (simp [*, errW_none, errW_some] <;> rfl), by repeat (first | (with_reducible first | exact HB.out | apply below_alloc | apply pw_below_drewN | apply below_drew1) | exact HB.out)⟩
          · rw [if_neg c19] at H
            have c19b0 : (t272 == t276) = false := beq_eq_false_iff_ne.mpr c19
            have c19b1 : (t272 != t276) = true := bne_iff_ne.mpr c19
            obtain rfl := Option.some.inj H
            go_wp2_with (first | ((with_reducible refine gate_callee (f := 36) rfl ?_); refine goesL_ (some 55) rfl rfl Tryd.func36 (by kernel_rfl) rfl #[.string a0, .int .i64 a2] rfl (by (try simp only [List.map_toArray, List.map_cons, List.map_nil]); first | done | rfl | (simp only [List.length_drop, List.length_take]; rfl)) ?_; (with_reducible refine (utflib_Step.calls kj5 a0 a2 t271 t272 t273 t274 _ A16.out ?hT_).mono ?_); (case hT_ => exact tab_step HT_ (by repeat (first | (with_reducible first | exact HB.out | apply below_alloc | apply pw_below_drewN | apply below_drew1) | exact HB.out))); rintro e w25 ⟨rfl, hb⟩; refine ⟨_, rfl, ?_⟩; have n0_ := Aside0.mk (below_step (by repeat (first | (with_reducible first | exact HB.out | apply below_alloc | apply pw_below_drewN | apply below_drew1) | exact HB.out)) hb); clear HB; have HB := n0_; clear n0_; (try clear hb); (try clear hb2); (try clear hk); (try clear hi)) | ((with_reducible refine gate_callee (f := 37) rfl ?_); refine goesL_ (some 63) rfl rfl Tryd.func37 (by kernel_rfl) rfl #[.string a0, .int .i64 a2] rfl (by (try simp only [List.map_toArray, List.map_cons, List.map_nil]); first | done | rfl | (simp only [List.length_drop, List.length_take]; rfl)) ?_; (with_reducible refine (trestleref17_Step.calls kj5 a0 a2 t275 t276 t277 t278 _ A17.out).mono ?_); rintro e w26 ⟨rfl, hb⟩; refine ⟨_, rfl, ?_⟩; have n0_ := Aside0.mk (below_step (by repeat (first | (with_reducible first | exact HB.out | apply below_alloc | apply pw_below_drewN | apply below_drew1) | exact HB.out)) hb); clear HB; have HB := n0_; clear n0_; (try clear hb); (try clear hb2); (try clear hk); (try clear hi)))
            go_ret
            exact ⟨by first | rfl | (simp [errW_none, errW_some] <;> rfl) | (simp [*, errW_none, errW_some] <;> rfl), by repeat (first | (with_reducible first | exact HB.out | apply below_alloc | apply pw_below_drewN | apply below_drew1) | exact HB.out)⟩
        · rw [if_neg c18] at H
          have c18b0 : (t271 == t275) = false := beq_eq_false_iff_ne.mpr c18
          have c18b1 : (t271 != t275) = true := bne_iff_ne.mpr c18
          obtain rfl := Option.some.inj H
          go_wp2_with (first | ((with_reducible refine gate_callee (f := 36) rfl ?_); refine goesL_ (some 55) rfl rfl Tryd.func36 (by kernel_rfl) rfl #[.string a0, .int .i64 a2] rfl (by (try simp only [List.map_toArray, List.map_cons, List.map_nil]); first | done | rfl | (simp only [List.length_drop, List.length_take]; rfl)) ?_; (with_reducible refine (utflib_Step.calls kj5 a0 a2 t271 t272 t273 t274 _ A16.out ?hT_).mono ?_); (case hT_ => exact tab_step HT_ (by repeat (first | (with_reducible first | exact HB.out | apply below_alloc | apply pw_below_drewN | apply below_drew1) | exact HB.out))); rintro e w27 ⟨rfl, hb⟩; refine ⟨_, rfl, ?_⟩; have n0_ := Aside0.mk (below_step (by repeat (first | (with_reducible first | exact HB.out | apply below_alloc | apply pw_below_drewN | apply below_drew1) | exact HB.out)) hb); clear HB; have HB := n0_; clear n0_; (try clear hb); (try clear hb2); (try clear hk); (try clear hi)) | ((with_reducible refine gate_callee (f := 37) rfl ?_); refine goesL_ (some 63) rfl rfl Tryd.func37 (by kernel_rfl) rfl #[.string a0, .int .i64 a2] rfl (by (try simp only [List.map_toArray, List.map_cons, List.map_nil]); first | done | rfl | (simp only [List.length_drop, List.length_take]; rfl)) ?_; (with_reducible refine (trestleref17_Step.calls kj5 a0 a2 t275 t276 t277 t278 _ A17.out).mono ?_); rintro e w28 ⟨rfl, hb⟩; refine ⟨_, rfl, ?_⟩; have n0_ := Aside0.mk (below_step (by repeat (first | (with_reducible first | exact HB.out | apply below_alloc | apply pw_below_drewN | apply below_drew1) | exact HB.out)) hb); clear HB; have HB := n0_; clear n0_; (try clear hb); (try clear hb2); (try clear hk); (try clear hi)))
          go_ret
          exact ⟨by first | rfl | (simp [errW_none, errW_some] <;> rfl) | (simp [*, errW_none, errW_some] <;> rfl), by repeat (first | (with_reducible first | exact HB.out | apply below_alloc | apply pw_below_drewN | apply below_drew1) | exact HB.out)⟩

/-- THE ONE PURE STATEMENT of trestlelaw17_UtflibOffsets: yours. -/
def trestlelaw17_UtflibOffsets.Pure : Prop := ∀ (a0 : ByteArray) (a1 : Int) (a2 : Int), a0.size ≤ 140737488351232 → (Lit.int .i64 a1).wf = true → (Lit.int .i64 a2).wf = true → ∃ k, trestlelaw17_UtflibOffsets.f k a0 a1 a2 = some true
theorem trestlelaw17_UtflibOffsets.walk (P : trestlelaw17_UtflibOffsets.Pure) (a0 : ByteArray) (a1 : Int) (a2 : Int) (w : World) (w0 : a0.size ≤ 140737488351232) (w1 : (Lit.int .i64 a1).wf = true) (w2 : (Lit.int .i64 a2).wf = true) (HT_ : RowKit.Hid (Lib.Utf8Tabs 0 1 w)) :
    Calls Tryd.prog 7 #[.string a0, .int .i64 a1, .int .i64 a2] w fun e w' => e = .returned (.bool true) ∧ Below w.heap.size w w' := by
  obtain ⟨k, h⟩ := P a0 a1 a2 w0 w1 w2
  refine (trestlelaw17_UtflibOffsets.calls k a0 a1 a2 true w h HT_).mono ?_
  rintro e w' ⟨rfl, hd⟩
  exact ⟨rfl, hd⟩

end Go.Proofs.YtlmmhlabacghnaaDoor.PR
