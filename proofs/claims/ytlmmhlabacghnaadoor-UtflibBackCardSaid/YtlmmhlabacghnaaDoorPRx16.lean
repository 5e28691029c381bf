import Derived.Test.YtlmmhlabacghnaaDoorPRx0
import Derived.Test.YtlmmhlabacghnaaDoorPRx13
import Derived.Test.YtlmmhlabacghnaaDoorUChar
import Derived.Test.YtlmmhlabacghnaaDoorUSpan
import Derived.Test.YtlmmhlabacghnaaDoorDec
import Derived.Test.YtlmmhlabacghnaaDoorPRx7
-- Written by a program of this session's (the kit's print, turned), out of the translation.
namespace Go.Proofs.YtlmmhlabacghnaaDoor.PR
open Go.RowKit Go.Proofs.YtlmmhlabacghnaaDoorW.PrintWords Go.Proofs.YtlmmhlabacghnaaDoorW.PrintLast Go.Proofs.YtlmmhlabacghnaaDoorW.PrintMore
attribute [local go_sem] max2_int min2_int max_two min_two max_three min_three max_four min_four   -- for this text's walks alone
set_option linter.unusedVariables false
set_option linter.unusedSimpArgs false

/-! ### trestlelaw17_fixed: function 32 -/
def trestlelaw17_fixed.f (k : Nat)  : Option (Bool) := (utflib_Len.f (⟨#[97, 195, 169]⟩ : ByteArray) 1 (-1)).bind fun bt233 => ((utflib_Char.f (([97, 8364] : List Int))).bind fun bt239 => ((utflib_Offset.f k (⟨#[97, 195, 169, 98]⟩ : ByteArray) 3 1).bind fun bt241 => ((utflib_Step.f k (⟨#[97, 195, 169]⟩ : ByteArray) 1).bind fun bt244 => (if bt233.1 = 2 then (if bt233.2.1 = 0 then (if bt233.2.2 = 0 then (if bt239.1.toList = ([97, 226, 130, 172] : List UInt8) then (if bt239.2 = 0 then (if bt241.1 = 4 then (if bt241.2.1 = true then (if bt241.2.2 = 0 then (if bt244.1 = 2 then (if bt244.2.1 = 233 then (if bt244.2.2.1 = true then (some (bt244.2.2.2 == 0)) else (some false)) else (some false)) else (some false)) else (some false)) else (some false)) else (some false)) else (some false)) else (some false)) else (some false)) else (some false)) else (some false)))))
theorem trestlelaw17_fixed.mono : ∀ k, LeO (trestlelaw17_fixed.f k ) (trestlelaw17_fixed.f (k + 1) ) := by
  intro  k
  unfold trestlelaw17_fixed.f
  repeat' first
      | (with_reducible exact utflib_Offset.mono _ _ _ _)
      | (with_reducible exact utflib_Step.mono _ _ _)
      | (with_reducible exact LeO.refl _)
      | (with_reducible exact LeO.none _)
      | (with_reducible refine LeO.ite ?_ ?_)
      | (with_reducible refine LeO.bind ?_ (fun _ => ?_))
      | exact utflib_Offset.mono _ _ _ _
      | exact utflib_Step.mono _ _ _
      | exact LeO.none _
      | refine LeO.ite ?_ ?_
      | refine LeO.bind ?_ (fun _ => ?_)
set_option maxHeartbeats 8000000 in
set_option maxRecDepth 100000 in
theorem trestlelaw17_fixed.calls (k : Nat)  (r : Bool) (w : World) (h : trestlelaw17_fixed.f k  = some r) (HT_ : RowKit.Hid (Lib.Utf8Tabs 0 1 w)) :
    Calls Tryd.prog 32 #[] w fun e w' => e = .returned (.bool r) ∧ Below w.heap.size w w' := by
  have HB := Aside0.mk (Below.refl w.heap.size w)
  have H : ((utflib_Len.f (⟨#[97, 195, 169]⟩ : ByteArray) 1 (-1)).bind fun bt233 => ((utflib_Char.f (([97, 8364] : List Int))).bind fun bt239 => ((utflib_Offset.f k (⟨#[97, 195, 169, 98]⟩ : ByteArray) 3 1).bind fun bt241 => ((utflib_Step.f k (⟨#[97, 195, 169]⟩ : ByteArray) 1).bind fun bt244 => (if bt233.1 = 2 then (if bt233.2.1 = 0 then (if bt233.2.2 = 0 then (if bt239.1.toList = ([97, 226, 130, 172] : List UInt8) then (if bt239.2 = 0 then (if bt241.1 = 4 then (if bt241.2.1 = true then (if bt241.2.2 = 0 then (if bt244.1 = 2 then (if bt244.2.1 = 233 then (if bt244.2.2.1 = true then (some (bt244.2.2.2 == 0)) else (some false)) else (some false)) else (some false)) else (some false)) else (some false)) else (some false)) else (some false)) else (some false)) else (some false)) else (some false)) else (some false)))))) = some r := h
  clear h
  replace H := Option.bind_eq_some_iff.mp H
  obtain ⟨⟨t233, t234, t235⟩, A10, H⟩ := H
  replace H : ((utflib_Char.f (([97, 8364] : List Int))).bind fun bt239 => ((utflib_Offset.f k (⟨#[97, 195, 169, 98]⟩ : ByteArray) 3 1).bind fun bt241 => ((utflib_Step.f k (⟨#[97, 195, 169]⟩ : ByteArray) 1).bind fun bt244 => (if t233 = 2 then (if t234 = 0 then (if t235 = 0 then (if bt239.1.toList = ([97, 226, 130, 172] : List UInt8) then (if bt239.2 = 0 then (if bt241.1 = 4 then (if bt241.2.1 = true then (if bt241.2.2 = 0 then (if bt244.1 = 2 then (if bt244.2.1 = 233 then (if bt244.2.2.1 = true then (some (bt244.2.2.2 == 0)) else (some false)) else (some false)) else (some false)) else (some false)) else (some false)) else (some false)) else (some false)) else (some false)) else (some false)) else (some false)) else (some false))))) = some r := H
  have A1 := Aside0.mk A10
  clear A10
  obtain ⟨y236, hy236⟩ : ∃ y_ : List Int, y_ = (([97, 8364] : List Int)) := ⟨_, rfl⟩
  replace H : ((utflib_Char.f y236).bind fun bt239 => ((utflib_Offset.f k (⟨#[97, 195, 169, 98]⟩ : ByteArray) 3 1).bind fun bt241 => ((utflib_Step.f k (⟨#[97, 195, 169]⟩ : ByteArray) 1).bind fun bt244 => (if t233 = 2 then (if t234 = 0 then (if t235 = 0 then (if bt239.1.toList = ([97, 226, 130, 172] : List UInt8) then (if bt239.2 = 0 then (if bt241.1 = 4 then (if bt241.2.1 = true then (if bt241.2.2 = 0 then (if bt244.1 = 2 then (if bt244.2.1 = 233 then (if bt244.2.2.1 = true then (some (bt244.2.2.2 == 0)) else (some false)) else (some false)) else (some false)) else (some false)) else (some false)) else (some false)) else (some false)) else (some false)) else (some false)) else (some false)) else (some false))))) = some r := by first | (rw [hy236]; with_reducible exact H) | (have H2_ := (Option.bind_some _ _).symm.trans H; rw [hy236]; with_reducible exact H2_) | (have H2_ := (Option.bind_some _ _).symm.trans H; with_reducible exact H2_) | with_reducible exact H | (rw [hy236]; exact H) | exact H
  have Ny236 := Aside0.mk hy236
  clear hy236
  replace H := Option.bind_eq_some_iff.mp H
  obtain ⟨⟨t239, t240⟩, A20, H⟩ := H
  replace H : ((utflib_Offset.f k (⟨#[97, 195, 169, 98]⟩ : ByteArray) 3 1).bind fun bt241 => ((utflib_Step.f k (⟨#[97, 195, 169]⟩ : ByteArray) 1).bind fun bt244 => (if t233 = 2 then (if t234 = 0 then (if t235 = 0 then (if t239.toList = ([97, 226, 130, 172] : List UInt8) then (if t240 = 0 then (if bt241.1 = 4 then (if bt241.2.1 = true then (if bt241.2.2 = 0 then (if bt244.1 = 2 then (if bt244.2.1 = 233 then (if bt244.2.2.1 = true then (some (bt244.2.2.2 == 0)) else (some false)) else (some false)) else (some false)) else (some false)) else (some false)) else (some false)) else (some false)) else (some false)) else (some false)) else (some false)) else (some false)))) = some r := H
  have A2 := Aside0.mk A20
  clear A20
  replace H := Option.bind_eq_some_iff.mp H
  obtain ⟨⟨t241, t242, t243⟩, A30, H⟩ := H
  replace H : ((utflib_Step.f k (⟨#[97, 195, 169]⟩ : ByteArray) 1).bind fun bt244 => (if t233 = 2 then (if t234 = 0 then (if t235 = 0 then (if t239.toList = ([97, 226, 130, 172] : List UInt8) then (if t240 = 0 then (if t241 = 4 then (if t242 = true then (if t243 = 0 then (if bt244.1 = 2 then (if bt244.2.1 = 233 then (if bt244.2.2.1 = true then (some (bt244.2.2.2 == 0)) else (some false)) else (some false)) else (some false)) else (some false)) else (some false)) else (some false)) else (some false)) else (some false)) else (some false)) else (some false)) else (some false))) = some r := H
  have A3 := Aside0.mk A30
  clear A30
  replace H := Option.bind_eq_some_iff.mp H
  obtain ⟨⟨t244, t245, t246, t247⟩, A40, H⟩ := H
  replace H : (if t233 = 2 then (if t234 = 0 then (if t235 = 0 then (if t239.toList = ([97, 226, 130, 172] : List UInt8) then (if t240 = 0 then (if t241 = 4 then (if t242 = true then (if t243 = 0 then (if t244 = 2 then (if t245 = 233 then (if t246 = true then (some (t247 == 0)) else (some false)) else (some false)) else (some false)) else (some false)) else (some false)) else (some false)) else (some false)) else (some false)) else (some false)) else (some false)) else (some false)) = some r := H
  have A4 := Aside0.mk A40
  clear A40
  by_cases c5 : t233 = 2
  · rw [if_pos c5] at H
    have c5b0 : (t233 == 2) = true := beq_iff_eq.mpr c5
    have c5b1 : (t233 != 2) = false := bne_eq_false_iff_eq.mpr c5
    clear c5
    by_cases c6 : t234 = 0
    · rw [if_pos c6] at H
      have c6b0 : (t234 == 0) = true := beq_iff_eq.mpr c6
      have c6b1 : (t234 != 0) = false := bne_eq_false_iff_eq.mpr c6
      clear c6
      by_cases c7 : t235 = 0
      · rw [if_pos c7] at H
        have c7b0 : (t235 == 0) = true := beq_iff_eq.mpr c7
        have c7b1 : (t235 != 0) = false := bne_eq_false_iff_eq.mpr c7
        clear c7
        by_cases c8 : t239.toList = ([97, 226, 130, 172] : List UInt8)
        · rw [if_pos c8] at H
          have c8b0 : (t239.toList == ([97, 226, 130, 172] : List UInt8)) = true := beq_iff_eq.mpr c8
          have c8b1 : (t239.toList != ([97, 226, 130, 172] : List UInt8)) = false := bne_eq_false_iff_eq.mpr c8
          clear c8
          by_cases c9 : t240 = 0
          · rw [if_pos c9] at H
            have c9b0 : (t240 == 0) = true := beq_iff_eq.mpr c9
            have c9b1 : (t240 != 0) = false := bne_eq_false_iff_eq.mpr c9
            clear c9
            by_cases c10 : t241 = 4
            · rw [if_pos c10] at H
              have c10b0 : (t241 == 4) = true := beq_iff_eq.mpr c10
              have c10b1 : (t241 != 4) = false := bne_eq_false_iff_eq.mpr c10
              clear c10
              by_cases c11 : t242 = true
              · subst c11
                have H1 : (if t243 = 0 then (if t244 = 2 then (if t245 = 233 then (if t246 = true then (some (t247 == 0)) else (some false)) else (some false)) else (some false)) else (some false)) = some r := by rw [if_pos rfl] at H; exact H
                clear H
                have H := H1
                clear H1
                by_cases c12 : t243 = 0
                · rw [if_pos c12] at H
                  have c12b0 : (t243 == 0) = true := beq_iff_eq.mpr c12
                  have c12b1 : (t243 != 0) = false := bne_eq_false_iff_eq.mpr c12
                  clear c12
                  by_cases c13 : t244 = 2
                  · rw [if_pos c13] at H
                    have c13b0 : (t244 == 2) = true := beq_iff_eq.mpr c13
                    have c13b1 : (t244 != 2) = false := bne_eq_false_iff_eq.mpr c13
                    clear c13
                    by_cases c14 : t245 = 233
                    · rw [if_pos c14] at H
                      have c14b0 : (t245 == 233) = true := beq_iff_eq.mpr c14
                      have c14b1 : (t245 != 233) = false := bne_eq_false_iff_eq.mpr c14
                      clear c14
                      by_cases c15 : t246 = true
                      · subst c15
                        have H1 : (some (t247 == 0)) = some r := by rw [if_pos rfl] at H; exact H
                        clear H
                        have H := H1
                        clear H1
                        obtain rfl := Option.some.inj H
                        go_enter Tryd.func32, Tryd.ntmps32
                        go_wp2_with (first | ((with_reducible refine gate_callee (f := 40) rfl ?_); refine goesL_ (some 14) rfl rfl Tryd.func40 (by kernel_rfl) rfl #[.string (⟨#[97, 195, 169]⟩ : ByteArray), .int .i64 1, .int .i64 (-1)] rfl (by (try simp only [List.map_toArray, List.map_cons, List.map_nil]); first | done | rfl | (simp only [List.length_drop, List.length_take]; rfl)) ?_; (with_reducible refine (utflib_Len.calls (⟨#[97, 195, 169]⟩ : ByteArray) 1 (-1) t233 t234 t235 _ A1.out ?hT_).mono ?_); (case hT_ => exact tab_step HT_ (by repeat (first | (with_reducible first | exact HB.out | apply below_alloc | apply pw_below_drewN | apply below_drew1) | exact HB.out))); rintro e w16 ⟨rfl, hb⟩; refine ⟨_, rfl, ?_⟩; have n0_ := Aside0.mk (below_step (by repeat (first | (with_reducible first | exact HB.out | apply below_alloc | apply pw_below_drewN | apply below_drew1) | exact HB.out)) hb); clear HB; have HB := n0_; clear n0_; (try clear hb); (try clear hb2); (try clear hk); (try clear hi)) | ((with_reducible refine gate_dst (N := 19) rfl ?_); refine Kd.R_lit (Kd.int .i64) _ 3 ?hg (N := 19) ?hd (xs := ([97, 8364] : List Int)) (inner := [.int .i64 97, .int .i64 8364]) (ok := fun _ => True) (okp := fun _ => True) ?hr ?hp (fun _ hk => hk) trivial (Below.refl _ _) (Nat.le_refl _) (by simp) ?_; (case hd => rfl); (case hg => rfl); (case hr => first | (go_simp; done) | (go_simp; rfl)); (case hp => exact (Reps.one (show Kd.M (Kd.int .i64) _ _ _ 97 [.int .i64 97] from rfl) (Reps.one (show Kd.M (Kd.int .i64) _ _ _ 8364 [.int .i64 8364] from rfl) (Reps.none _ _)))); intro v237 w17 ho18 hb hg_ hnew_; clear hg_ hnew_; (first | rw [← Ny236.out] at ho18 | (simp only [Int.reduceToNat] at ho18; rw [← Ny236.out] at ho18)); have n0_ := Aside0.mk (Kd.R_lower ho18 (below_size (by repeat (first | (with_reducible first | exact HB.out | apply below_alloc | apply pw_below_drewN | apply below_drew1) | exact HB.out)))); have n1_ := Aside0.mk (below_step (by repeat (first | (with_reducible first | exact HB.out | apply below_alloc | apply pw_below_drewN | apply below_drew1) | exact HB.out)) hb); clear HB; have HO238 := n0_; have HB := n1_; clear n0_ n1_; clear hb ho18; obtain ⟨Ao19, co19, eo19⟩ := Kd.R_slice HO238.out; subst eo19) | ((with_reducible refine gate_callee (f := 30) rfl ?_); refine goesL_ (some 20) rfl rfl Tryd.func30 (by kernel_rfl) rfl #[.slice Ao19 y236.length co19] rfl (by (try simp only [List.map_toArray, List.map_cons, List.map_nil]); first | done | rfl | (simp only [List.length_drop, List.length_take]; rfl)) ?_; (with_reducible refine (utflib_Char.calls _ _ y236 t239 t240 _ ?side1 ?side2 A2.out).mono ?_); (case side1 => repeat (first | exact (Kd.R_reads' HO238.out).2.2 | (with_reducible refine Kd.C_alloc ?_ _) | (with_reducible refine Kd.C_drewN ?_ _) | (with_reducible refine Kd.C_drew ?_))); (case side2 => exact (Kd.R_reads' HO238.out).2.1); rintro e w20 ⟨rfl, hb⟩; refine ⟨_, rfl, ?_⟩; have n0_ := Aside0.mk (Kd.R_below (by (with_reducible repeat (first | apply Kd.R_alloc | apply Kd.R_drewN | apply Kd.R_drew)); exact HO238.out) hb); have n1_ := Aside0.mk (below_step (by repeat (first | (with_reducible first | exact HB.out | apply below_alloc | apply pw_below_drewN | apply below_drew1) | exact HB.out)) hb); clear HO238; clear HB; have HO238 := n0_; have HB := n1_; clear n0_ n1_; (try clear hb); (try clear hb2); (try clear hk); (try clear hi)) | ((with_reducible refine gate_callee (f := 34) rfl ?_); refine goesL_ (some 24) rfl rfl Tryd.func34 (by kernel_rfl) rfl #[.string (⟨#[97, 195, 169, 98]⟩ : ByteArray), .int .i64 3, .int .i64 1] rfl (by (try simp only [List.map_toArray, List.map_cons, List.map_nil]); first | done | rfl | (simp only [List.length_drop, List.length_take]; rfl)) ?_; (with_reducible refine (utflib_Offset.calls k (⟨#[97, 195, 169, 98]⟩ : ByteArray) 3 1 t241 true t243 _ A3.out).mono ?_); rintro e w' ⟨rfl, ⟨nd, rfl⟩⟩; refine ⟨_, rfl, ?_⟩) | ((with_reducible refine gate_callee (f := 36) rfl ?_); refine goesL_ (some 29) rfl rfl Tryd.func36 (by kernel_rfl) rfl #[.string (⟨#[97, 195, 169]⟩ : ByteArray), .int .i64 1] rfl (by (try simp only [List.map_toArray, List.map_cons, List.map_nil]); first | done | rfl | (simp only [List.length_drop, List.length_take]; rfl)) ?_; (with_reducible refine (utflib_Step.calls k (⟨#[97, 195, 169]⟩ : ByteArray) 1 t244 t245 true t247 _ A4.out ?hT_).mono ?_); (case hT_ => exact tab_step HT_ (by repeat (first | (with_reducible first | exact HB.out | apply below_alloc | apply pw_below_drewN | apply below_drew1) | exact HB.out))); rintro e w21 ⟨rfl, hb⟩; refine ⟨_, rfl, ?_⟩; have n0_ := Aside0.mk (Kd.R_below (by (with_reducible repeat (first | apply Kd.R_alloc | apply Kd.R_drewN | apply Kd.R_drew)); exact HO238.out) hb); have n1_ := Aside0.mk (below_step (by repeat (first | (with_reducible first | exact HB.out | apply below_alloc | apply pw_below_drewN | apply below_drew1) | exact HB.out)) hb); clear HO238; clear HB; have HO238 := n0_; have HB := n1_; clear n0_ n1_; (try clear hb); (try clear hb2); (try clear hk); (try clear hi)))
                        go_ret
                        exact ⟨by first | rfl | (simp [errW_none, errW_some] <;> rfl) | (simp [*, errW_none, errW_some] <;> rfl), by repeat (first | (with_reducible first | exact HB.out | apply below_alloc | apply pw_below_drewN | apply below_drew1) | exact HB.out)⟩
                      · replace c15 := Bool.eq_false_iff.mpr c15
                        subst c15
                        have H1 : (some false) = some r := by rw [if_neg (show ¬ (false = true) by decide)] at H; exact H
                        clear H
                        have H := H1
                        clear H1
                        obtain rfl := Option.some.inj H
                        go_enter Tryd.func32, Tryd.ntmps32
                        go_wp2_with (first | ((with_reducible refine gate_callee (f := 40) rfl ?_); refine goesL_ (some 14) rfl rfl Tryd.func40 (by kernel_rfl) rfl #[.string (⟨#[97, 195, 169]⟩ : ByteArray), .int .i64 1, .int .i64 (-1)] rfl (by (try simp only [List.map_toArray, List.map_cons, List.map_nil]); first | done | rfl | (simp only [List.length_drop, List.length_take]; rfl)) ?_; (with_reducible refine (utflib_Len.calls (⟨#[97, 195, 169]⟩ : ByteArray) 1 (-1) t233 t234 t235 _ A1.out ?hT_).mono ?_); (case hT_ => exact tab_step HT_ (by repeat (first | (with_reducible first | exact HB.out | apply below_alloc | apply pw_below_drewN | apply below_drew1) | exact HB.out))); rintro e w22 ⟨rfl, hb⟩; refine ⟨_, rfl, ?_⟩; have n0_ := Aside0.mk (below_step (by repeat (first | (with_reducible first | exact HB.out | apply below_alloc | apply pw_below_drewN | apply below_drew1) | exact HB.out)) hb); clear HB; have HB := n0_; clear n0_; (try clear hb); (try clear hb2); (try clear hk); (try clear hi)) | ((with_reducible refine gate_dst (N := 19) rfl ?_); refine Kd.R_lit (Kd.int .i64) _ 3 ?hg (N := 19) ?hd (xs := ([97, 8364] : List Int)) (inner := [.int .i64 97, .int .i64 8364]) (ok := fun _ => True) (okp := fun _ => True) ?hr ?hp (fun _ hk => hk) trivial (Below.refl _ _) (Nat.le_refl _) (by simp) ?_; (case hd => rfl); (case hg => rfl); (case hr => first | (go_simp; done) | (go_simp; rfl)); (case hp => exact (Reps.one (show Kd.M (Kd.int .i64) _ _ _ 97 [.int .i64 97] from rfl) (Reps.one (show Kd.M (Kd.int .i64) _ _ _ 8364 [.int .i64 8364] from rfl) (Reps.none _ _)))); intro v237 w23 ho24 hb hg_ hnew_; clear hg_ hnew_; (first | rw [← Ny236.out] at ho24 | (simp only [Int.reduceToNat] at ho24; rw [← Ny236.out] at ho24)); have n0_ := Aside0.mk (Kd.R_lower ho24 (below_size (by repeat (first | (with_reducible first | exact HB.out | apply below_alloc | apply pw_below_drewN | apply below_drew1) | exact HB.out)))); have n1_ := Aside0.mk (below_step (by repeat (first | (with_reducible first | exact HB.out | apply below_alloc | apply pw_below_drewN | apply below_drew1) | exact HB.out)) hb); clear HB; have HO238 := n0_; have HB := n1_; clear n0_ n1_; clear hb ho24; obtain ⟨Ao25, co25, eo25⟩ := Kd.R_slice HO238.out; subst eo25) | ((with_reducible refine gate_callee (f := 30) rfl ?_); refine goesL_ (some 20) rfl rfl Tryd.func30 (by kernel_rfl) rfl #[.slice Ao25 y236.length co25] rfl (by (try simp only [List.map_toArray, List.map_cons, List.map_nil]); first | done | rfl | (simp only [List.length_drop, List.length_take]; rfl)) ?_; (with_reducible refine (utflib_Char.calls _ _ y236 t239 t240 _ ?side1 ?side2 A2.out).mono ?_); (case side1 => repeat (first | exact (Kd.R_reads' HO238.out).2.2 | (with_reducible refine Kd.C_alloc ?_ _) | (with_reducible refine Kd.C_drewN ?_ _) | (with_reducible refine Kd.C_drew ?_))); (case side2 => exact (Kd.R_reads' HO238.out).2.1); rintro e w26 ⟨rfl, hb⟩; refine ⟨_, rfl, ?_⟩; have n0_ := Aside0.mk (Kd.R_below (by (with_reducible repeat (first | apply Kd.R_alloc | apply Kd.R_drewN | apply Kd.R_drew)); exact HO238.out) hb); have n1_ := Aside0.mk (below_step (by repeat (first | (with_reducible first | exact HB.out | apply below_alloc | apply pw_below_drewN | apply below_drew1) | exact HB.out)) hb); clear HO238; clear HB; have HO238 := n0_; have HB := n1_; clear n0_ n1_; (try clear hb); (try clear hb2); (try clear hk); (try clear hi)) | ((with_reducible refine gate_callee (f := 34) rfl ?_); refine goesL_ (some 24) rfl rfl Tryd.func34 (by kernel_rfl) rfl #[.string (⟨#[97, 195, 169, 98]⟩ : ByteArray), .int .i64 3, .int .i64 1] rfl (by (try simp only [List.map_toArray, List.map_cons, List.map_nil]); first | done | rfl | (simp only [List.length_drop, List.length_take]; rfl)) ?_; (with_reducible refine (utflib_Offset.calls k (⟨#[97, 195, 169, 98]⟩ : ByteArray) 3 1 t241 true t243 _ A3.out).mono ?_); rintro e w' ⟨rfl, ⟨nd, rfl⟩⟩; refine ⟨_, rfl, ?_⟩) | ((with_reducible refine gate_callee (f := 36) rfl ?_); refine goesL_ (some 29) rfl rfl Tryd.func36 (by kernel_rfl) rfl #[.string (⟨#[97, 195, 169]⟩ : ByteArray), .int .i64 1] rfl (by (try simp only [List.map_toArray, List.map_cons, List.map_nil]); first | done | rfl | (simp only [List.length_drop, List.length_take]; rfl)) ?_; (with_reducible refine (utflib_Step.calls k (⟨#[97, 195, 169]⟩ : ByteArray) 1 t244 t245 false t247 _ A4.out ?hT_).mono ?_); (case hT_ => exact tab_step HT_ (by repeat (first | (with_reducible first | exact HB.out | apply below_alloc | apply pw_below_drewN | apply below_drew1) | exact HB.out))); rintro e w27 ⟨rfl, hb⟩; refine ⟨_, rfl, ?_⟩; have n0_ := Aside0.mk (Kd.R_below (by (with_reducible repeat (first | apply Kd.R_alloc | apply Kd.R_drewN | apply Kd.R_drew)); exact HO238.out) hb); have n1_ := Aside0.mk (below_step (by repeat (first | (with_reducible first | exact HB.out | apply below_alloc | apply pw_below_drewN | apply below_drew1) | exact HB.out)) hb); clear HO238; clear HB; have HO238 := n0_; have HB := n1_; clear n0_ n1_; (try clear hb); (try clear hb2); (try clear hk); (try clear hi)))
                        go_ret
                        exact ⟨by first | rfl | (simp [errW_none, errW_some] <;> rfl) | (simp [*, errW_none, errW_some] <;> rfl), by repeat (first | (with_reducible first | exact HB.out | apply below_alloc | apply pw_below_drewN | apply below_drew1) | exact HB.out)⟩
                    · rw [if_neg c14] at H
                      have c14b0 : (t245 == 233) = false := beq_eq_false_iff_ne.mpr c14
                      have c14b1 : (t245 != 233) = true := bne_iff_ne.mpr c14
                      obtain rfl := Option.some.inj H
                      go_enter Tryd.func32, Tryd.ntmps32
                      go_wp2_with (first | ((with_reducible refine gate_callee (f := 40) rfl ?_); refine goesL_ (some 14) rfl rfl Tryd.func40 (by kernel_rfl) rfl #[.string (⟨#[97, 195, 169]⟩ : ByteArray), .int .i64 1, .int .i64 (-1)] rfl (by (try simp only [List.map_toArray, List.map_cons, List.map_nil]); first | done | rfl | (simp only [List.length_drop, List.length_take]; rfl)) ?_; (with_reducible refine (utflib_Len.calls (⟨#[97, 195, 169]⟩ : ByteArray) 1 (-1) t233 t234 t235 _ A1.out ?hT_).mono ?_); (case hT_ => exact tab_step HT_ (by repeat (first | (with_reducible first | exact HB.out | apply below_alloc | apply pw_below_drewN | apply below_drew1) | exact HB.out))); rintro e w28 ⟨rfl, hb⟩; refine ⟨_, rfl, ?_⟩; have n0_ := Aside0.mk (below_step (by repeat (first | (with_reducible first | exact HB.out | apply below_alloc | apply pw_below_drewN | apply below_drew1) | exact HB.out)) hb); clear HB; have HB := n0_; clear n0_; (try clear hb); (try clear hb2); (try clear hk); (try clear hi)) | ((with_reducible refine gate_dst (N := 19) rfl ?_); refine Kd.R_lit (Kd.int .i64) _ 3 ?hg (N := 19) ?hd (xs := ([97, 8364] : List Int)) (inner := [.int .i64 97, .int .i64 8364]) (ok := fun _ => True) (okp := fun _ => True) ?hr ?hp (fun _ hk => hk) trivial (Below.refl _ _) (Nat.le_refl _) (by simp) ?_; (case hd => rfl); (case hg => rfl); (case hr => first | (go_simp; done) | (go_simp; rfl)); (case hp => exact (Reps.one (show Kd.M (Kd.int .i64) _ _ _ 97 [.int .i64 97] from rfl) (Reps.one (show Kd.M (Kd.int .i64) _ _ _ 8364 [.int .i64 8364] from rfl) (Reps.none _ _)))); intro v237 w29 ho30 hb hg_ hnew_; clear hg_ hnew_; (first | rw [← Ny236.out] at ho30 | (simp only [Int.reduceToNat] at ho30; rw [← Ny236.out] at ho30)); have n0_ := Aside0.mk (Kd.R_lower ho30 (below_size (by repeat (first | (with_reducible first | exact HB.out | apply below_alloc | apply pw_below_drewN | apply below_drew1) | exact HB.out)))); have n1_ := Aside0.mk (below_step (by repeat (first | (with_reducible first | exact HB.out | apply below_alloc | apply pw_below_drewN | apply below_drew1) | exact HB.out)) hb); clear HB; have HO238 := n0_; have HB := n1_; clear n0_ n1_; clear hb ho30; obtain ⟨Ao31, co31, eo31⟩ := Kd.R_slice HO238.out; subst eo31) | ((with_reducible refine gate_callee (f := 30) rfl ?_); refine goesL_ (some 20) rfl rfl Tryd.func30 (by kernel_rfl) rfl #[.slice Ao31 y236.length co31] rfl (by (try simp only [List.map_toArray, List.map_cons, List.map_nil]); first | done | rfl | (simp only [List.length_drop, List.length_take]; rfl)) ?_; (with_reducible refine (utflib_Char.calls _ _ y236 t239 t240 _ ?side1 ?side2 A2.out).mono ?_); (case side1 => repeat (first | exact (Kd.R_reads' HO238.out).2.2 | (with_reducible refine Kd.C_alloc ?_ _) | (with_reducible refine Kd.C_drewN ?_ _) | (with_reducible refine Kd.C_drew ?_))); (case side2 => exact (Kd.R_reads' HO238.out).2.1); rintro e w32 ⟨rfl, hb⟩; refine ⟨_, rfl, ?_⟩; have n0_ := Aside0.mk (Kd.R_below (by (with_reducible repeat (first | apply Kd.R_alloc | apply Kd.R_drewN | apply Kd.R_drew)); exact HO238.out) hb); have n1_ := Aside0.mk (below_step (by repeat (first | (with_reducible first | exact HB.out | apply below_alloc | apply pw_below_drewN | apply below_drew1) | exact HB.out)) hb); clear HO238; clear HB; have HO238 := n0_; have HB := n1_; clear n0_ n1_; (try clear hb); (try clear hb2); (try clear hk); (try clear hi)) | ((with_reducible refine gate_callee (f := 34) rfl ?_); refine goesL_ (some 24) rfl rfl Tryd.func34 (by kernel_rfl) rfl #[.string (⟨#[97, 195, 169, 98]⟩ : ByteArray), .int .i64 3, .int .i64 1] rfl (by (try simp only [List.map_toArray, List.map_cons, List.map_nil]); first | done | rfl | (simp only [List.length_drop, List.length_take]; rfl)) ?_; (with_reducible refine (utflib_Offset.calls k (⟨#[97, 195, 169, 98]⟩ : ByteArray) 3 1 t241 true t243 _ A3.out).mono ?_); rintro e w' ⟨rfl, ⟨nd, rfl⟩⟩; refine ⟨_, rfl, ?_⟩) | ((with_reducible refine gate_callee (f := 36) rfl ?_); refine goesL_ (some 29) rfl rfl Tryd.func36 (by kernel_rfl) rfl #[.string (⟨#[97, 195, 169]⟩ : ByteArray), .int .i64 1] rfl (by (try simp only [List.map_toArray, List.map_cons, List.map_nil]); first | done | rfl | (simp only [List.length_drop, List.length_take]; rfl)) ?_; (with_reducible refine (utflib_Step.calls k (⟨#[97, 195, 169]⟩ : ByteArray) 1 t244 t245 t246 t247 _ A4.out ?hT_).mono ?_); (case hT_ => exact tab_step HT_ (by repeat (first | (with_reducible first | exact HB.out | apply below_alloc | apply pw_below_drewN | apply below_drew1) | exact HB.out))); rintro e w33 ⟨rfl, hb⟩; refine ⟨_, rfl, ?_⟩; have n0_ := Aside0.mk (Kd.R_below (by (with_reducible repeat (first | apply Kd.R_alloc | apply Kd.R_drewN | apply Kd.R_drew)); exact HO238.out) hb); have n1_ := Aside0.mk (below_step (by repeat (first | (with_reducible first | exact HB.out | apply below_alloc | apply pw_below_drewN | apply below_drew1) | exact HB.out)) hb); clear HO238; clear HB; have HO238 := n0_; have HB := n1_; clear n0_ n1_; (try clear hb); (try clear hb2); (try clear hk); (try clear hi)))
                      go_ret
                      exact ⟨by first | rfl | (simp [errW_none, errW_some] <;> rfl) | (simp [*, errW_none, errW_some] <;> rfl), by repeat (first | (with_reducible first | exact HB.out | apply below_alloc | apply pw_below_drewN | apply below_drew1) | exact HB.out)⟩
                  · rw [if_neg c13] at H
                    have c13b0 : (t244 == 2) = false := beq_eq_false_iff_ne.mpr c13
                    have c13b1 : (t244 != 2) = true := bne_iff_ne.mpr c13
                    obtain rfl := Option.some.inj H
                    go_enter Tryd.func32, Tryd.ntmps32
                    go_wp2_with (first | ((with_reducible refine gate_callee (f := 40) rfl ?_); refine goesL_ (some 14) rfl rfl Tryd.func40 (by kernel_rfl) rfl #[.string (⟨#[97, 195, 169]⟩ : ByteArray), .int .i64 1, .int .i64 (-1)] rfl (by (try simp only [List.map_toArray, List.map_cons, List.map_nil]); first | done | rfl | (simp only [List.length_drop, List.length_take]; rfl)) ?_; (with_reducible refine (utflib_Len.calls (⟨#[97, 195, 169]⟩ : ByteArray) 1 (-1) t233 t234 t235 _ A1.out ?hT_).mono ?_); (case hT_ => exact tab_step HT_ (by repeat (first | (with_reducible first | exact HB.out | apply below_alloc | apply pw_below_drewN | apply below_drew1) | exact HB.out))); rintro e w34 ⟨rfl, hb⟩; refine ⟨_, rfl, ?_⟩; have n0_ := Aside0.mk (below_step (by repeat (first | (with_reducible first | exact HB.out | apply below_alloc | apply pw_below_drewN | apply below_drew1) | exact HB.out)) hb); clear HB; have HB := n0_; clear n0_; (try clear hb); (try clear hb2); (try clear hk); (try clear hi)) | ((with_reducible refine gate_dst (N := 19) rfl ?_); refine Kd.R_lit (Kd.int .i64) _ 3 ?hg (N := 19) ?hd (xs := ([97, 8364] : List Int)) (inner := [.int .i64 97, .int .i64 8364]) (ok := fun _ => True) (okp := fun _ => True) ?hr ?hp (fun _ hk => hk) trivial (Below.refl _ _) (Nat.le_refl _) (by simp) ?_; (case hd => rfl); (case hg => rfl); (case hr => first | (go_simp; done) | (go_simp; rfl)); (case hp => exact (Reps.one (show Kd.M (Kd.int .i64) _ _ _ 97 [.int .i64 97] from rfl) (Reps.one (show Kd.M (Kd.int .i64) _ _ _ 8364 [.int .i64 8364] from rfl) (Reps.none _ _)))); intro v237 w35 ho36 hb hg_ hnew_; clear hg_ hnew_; (first | rw [← Ny236.out] at ho36 | (simp only [Int.reduceToNat] at ho36; rw [← Ny236.out] at ho36)); have n0_ := Aside0.mk (Kd.R_lower ho36 (below_size (by repeat (first | (with_reducible first | exact HB.out | apply below_alloc | apply pw_below_drewN | apply below_drew1) | exact HB.out)))); have n1_ := Aside0.mk (below_step (by repeat (first | (with_reducible first | exact HB.out | apply below_alloc | apply pw_below_drewN | apply below_drew1) | exact HB.out)) hb); clear HB; have HO238 := n0_; have HB := n1_; clear n0_ n1_; clear hb ho36; obtain ⟨Ao37, co37, eo37⟩ := Kd.R_slice HO238.out; subst eo37) | ((with_reducible refine gate_callee (f := 30) rfl ?_); refine goesL_ (some 20) rfl rfl Tryd.func30 (by kernel_rfl) rfl #[.slice Ao37 y236.length co37] rfl (by (try simp only [List.map_toArray, List.map_cons, List.map_nil]); first | done | rfl | (simp only [List.length_drop, List.length_take]; rfl)) ?_; (with_reducible refine (utflib_Char.calls _ _ y236 t239 t240 _ ?side1 ?side2 A2.out).mono ?_); (case side1 => repeat (first | exact (Kd.R_reads' HO238.out).2.2 | (with_reducible refine Kd.C_alloc ?_ _) | (with_reducible refine Kd.C_drewN ?_ _) | (with_reducible refine Kd.C_drew ?_))); (case side2 => exact (Kd.R_reads' HO238.out).2.1); rintro e w38 ⟨rfl, hb⟩; refine ⟨_, rfl, ?_⟩; have n0_ := Aside0.mk (Kd.R_below (by (with_reducible repeat (first | apply Kd.R_alloc | apply Kd.R_drewN | apply Kd.R_drew)); exact HO238.out) hb); have n1_ := Aside0.mk (below_step (by repeat (first | (with_reducible first | exact HB.out | apply below_alloc | apply pw_below_drewN | apply below_drew1) | exact HB.out)) hb); clear HO238; clear HB; have HO238 := n0_; have HB := n1_; clear n0_ n1_; (try clear hb); (try clear hb2); (try clear hk); (try clear hi)) | ((with_reducible refine gate_callee (f := 34) rfl ?_); refine goesL_ (some 24) rfl rfl Tryd.func34 (by kernel_rfl) rfl #[.string (⟨#[97, 195, 169, 98]⟩ : ByteArray), .int .i64 3, .int .i64 1] rfl (by (try simp only [List.map_toArray, List.map_cons, List.map_nil]); first | done | rfl | (simp only [List.length_drop, List.length_take]; rfl)) ?_; (with_reducible refine (utflib_Offset.calls k (⟨#[97, 195, 169, 98]⟩ : ByteArray) 3 1 t241 true t243 _ A3.out).mono ?_); rintro e w' ⟨rfl, ⟨nd, rfl⟩⟩; refine ⟨_, rfl, ?_⟩) | ((with_reducible refine gate_callee (f := 36) rfl ?_); refine goesL_ (some 29) rfl rfl Tryd.func36 (by kernel_rfl) rfl #[.string (⟨#[97, 195, 169]⟩ : ByteArray), .int .i64 1] rfl (by (try simp only [List.map_toArray, List.map_cons, List.map_nil]); first | done | rfl | (simp only [List.length_drop, List.length_take]; rfl)) ?_; (with_reducible refine (utflib_Step.calls k (⟨#[97, 195, 169]⟩ : ByteArray) 1 t244 t245 t246 t247 _ A4.out ?hT_).mono ?_); (case hT_ => exact tab_step HT_ (by repeat (first | (with_reducible first | exact HB.out | apply below_alloc | apply pw_below_drewN | apply below_drew1) | exact HB.out))); rintro e w39 ⟨rfl, hb⟩; refine ⟨_, rfl, ?_⟩; have n0_ := Aside0.mk (Kd.R_below (by (with_reducible repeat (first | apply Kd.R_alloc | apply Kd.R_drewN | apply Kd.R_drew)); exact HO238.out) hb); have n1_ := Aside0.mk (below_step (by repeat (first | (with_reducible first | exact HB.out | apply below_alloc | apply pw_below_drewN | apply below_drew1) | exact HB.out)) hb); clear HO238; clear HB; have HO238 := n0_; have HB := n1_; clear n0_ n1_; (try clear hb); (try clear hb2); (try clear hk); (try clear hi)))
                    go_ret
                    exact ⟨by first | rfl | (simp [errW_none, errW_some] <;> rfl) | (simp [*, errW_none, errW_some] <;> rfl), by repeat (first | (with_reducible first | exact HB.out | apply below_alloc | apply pw_below_drewN | apply below_drew1) | exact HB.out)⟩
                · rw [if_neg c12] at H
                  have c12b0 : (t243 == 0) = false := beq_eq_false_iff_ne.mpr c12
                  have c12b1 : (t243 != 0) = true := bne_iff_ne.mpr c12
                  obtain rfl := Option.some.inj H
                  go_enter Tryd.func32, Tryd.ntmps32
                  go_wp2_with (first | ((with_reducible refine gate_callee (f := 40) rfl ?_); refine goesL_ (some 14) rfl rfl Tryd.func40 (by kernel_rfl) rfl #[.string (⟨#[97, 195, 169]⟩ : ByteArray), .int .i64 1, .int .i64 (-1)] rfl (by (try simp only [List.map_toArray, List.map_cons, List.map_nil]); first | done | rfl | (simp only [List.length_drop, List.length_take]; rfl)) ?_; (with_reducible refine (utflib_Len.calls (⟨#[97, 195, 169]⟩ : ByteArray) 1 (-1) t233 t234 t235 _ A1.out ?hT_).mono ?_); (case hT_ => exact tab_step HT_ (by repeat (first | (with_reducible first | exact HB.out | apply below_alloc | apply pw_below_drewN | apply below_drew1) | exact HB.out))); rintro e w40 ⟨rfl, hb⟩; refine ⟨_, rfl, ?_⟩; have n0_ := Aside0.mk (below_step (by repeat (first | (with_reducible first | exact HB.out | apply below_alloc | apply pw_below_drewN | apply below_drew1) | exact HB.out)) hb); clear HB; have HB := n0_; clear n0_; (try clear hb); (try clear hb2); (try clear hk); (try clear hi)) | ((with_reducible refine gate_dst (N := 19) rfl ?_); refine Kd.R_lit (Kd.int .i64) _ 3 ?hg (N := 19) ?hd (xs := ([97, 8364] : List Int)) (inner := [.int .i64 97, .int .i64 8364]) (ok := fun _ => True) (okp := fun _ => True) ?hr ?hp (fun _ hk => hk) trivial (Below.refl _ _) (Nat.le_refl _) (by simp) ?_; (case hd => rfl); (case hg => rfl); (case hr => first | (go_simp; done) | (go_simp; rfl)); (case hp => exact (Reps.one (show Kd.M (Kd.int .i64) _ _ _ 97 [.int .i64 97] from rfl) (Reps.one (show Kd.M (Kd.int .i64) _ _ _ 8364 [.int .i64 8364] from rfl) (Reps.none _ _)))); intro v237 w41 ho42 hb hg_ hnew_; clear hg_ hnew_; (first | rw [← Ny236.out] at ho42 | (simp only [Int.reduceToNat] at ho42; rw [← Ny236.out] at ho42)); have n0_ := Aside0.mk (Kd.R_lower ho42 (below_size (by repeat (first | (with_reducible first | exact HB.out | apply below_alloc | apply pw_below_drewN | apply below_drew1) | exact HB.out)))); have n1_ := Aside0.mk (below_step (by repeat (first | (with_reducible first | exact HB.out | apply below_alloc | apply pw_below_drewN | apply below_drew1) | exact HB.out)) hb); clear HB; have HO238 := n0_; have HB := n1_; clear n0_ n1_; clear hb ho42; obtain ⟨Ao43, co43, eo43⟩ := Kd.R_slice HO238.out; subst eo43) | ((with_reducible refine gate_callee (f := 30) rfl ?_); refine goesL_ (some 20) rfl rfl Tryd.func30 (by kernel_rfl) rfl #[.slice Ao43 y236.length co43] rfl (by (try simp only [List.map_toArray, List.map_cons, List.map_nil]); first | done | rfl | (simp only [List.length_drop, List.length_take]; rfl)) ?_; (with_reducible refine (utflib_Char.calls _ _ y236 t239 t240 _ ?side1 ?side2 A2.out).mono ?_); (case side1 => repeat (first | exact (Kd.R_reads' HO238.out).2.2 | (with_reducible refine Kd.C_alloc ?_ _) | (with_reducible refine Kd.C_drewN ?_ _) | (with_reducible refine Kd.C_drew ?_))); (case side2 => exact (Kd.R_reads' HO238.out).2.1); rintro e w44 ⟨rfl, hb⟩; refine ⟨_, rfl, ?_⟩; have n0_ := Aside0.mk (Kd.R_below (by (with_reducible repeat (first | apply Kd.R_alloc | apply Kd.R_drewN | apply Kd.R_drew)); exact HO238.out) hb); have n1_ := Aside0.mk (below_step (by repeat (first | (with_reducible first | exact HB.out | apply below_alloc | apply pw_below_drewN | apply below_drew1) | exact HB.out)) hb); clear HO238; clear HB; have HO238 := n0_; have HB := n1_; clear n0_ n1_; (try clear hb); (try clear hb2); (try clear hk); (try clear hi)) | ((with_reducible refine gate_callee (f := 34) rfl ?_); refine goesL_ (some 24) rfl rfl Tryd.func34 (by kernel_rfl) rfl #[.string (⟨#[97, 195, 169, 98]⟩ : ByteArray), .int .i64 3, .int .i64 1] rfl (by (try simp only [List.map_toArray, List.map_cons, List.map_nil]); first | done | rfl | (simp only [List.length_drop, List.length_take]; rfl)) ?_; (with_reducible refine (utflib_Offset.calls k (⟨#[97, 195, 169, 98]⟩ : ByteArray) 3 1 t241 true t243 _ A3.out).mono ?_); rintro e w' ⟨rfl, ⟨nd, rfl⟩⟩; refine ⟨_, rfl, ?_⟩) | ((with_reducible refine gate_callee (f := 36) rfl ?_); refine goesL_ (some 29) rfl rfl Tryd.func36 (by kernel_rfl) rfl #[.string (⟨#[97, 195, 169]⟩ : ByteArray), .int .i64 1] rfl (by (try simp only [List.map_toArray, List.map_cons, List.map_nil]); first | done | rfl | (simp only [List.length_drop, List.length_take]; rfl)) ?_; (with_reducible refine (utflib_Step.calls k (⟨#[97, 195, 169]⟩ : ByteArray) 1 t244 t245 t246 t247 _ A4.out ?hT_).mono ?_); (case hT_ => exact tab_step HT_ (by repeat (first | (with_reducible first | exact HB.out | apply below_alloc | apply pw_below_drewN | apply below_drew1) | exact HB.out))); rintro e w45 ⟨rfl, hb⟩; refine ⟨_, rfl, ?_⟩; have n0_ := Aside0.mk (Kd.R_below (by (with_reducible repeat (first | apply Kd.R_alloc | apply Kd.R_drewN | apply Kd.R_drew)); exact HO238.out) hb); have n1_ := Aside0.mk (below_step (by repeat (first | (with_reducible first | exact HB.out | apply below_alloc | apply pw_below_drewN | apply below_drew1) | exact HB.out)) hb); clear HO238; clear HB; have HO238 := n0_; have HB := n1_; clear n0_ n1_; (try clear hb); (try clear hb2); (try clear hk); (try clear hi)))
                  go_ret
                  exact ⟨by first | rfl | (simp [errW_none, errW_some] <;> rfl) | (simp [*, errW_none, errW_some] <;> rfl), by repeat (first | (with_reducible first | exact HB.out | apply below_alloc | apply pw_below_drewN | apply below_drew1) | exact HB.out)⟩
              · replace c11 := Bool.eq_false_iff.mpr c11
                subst c11
                have H1 : (some false) = some r := by rw [if_neg (show ¬ (false = true) by decide)] at H; exact H
                clear H
                have H := H1
                clear H1
                obtain rfl := Option.some.inj H
                go_enter Tryd.func32, Tryd.ntmps32
                go_wp2_with (first | ((with_reducible refine gate_callee (f := 40) rfl ?_); refine goesL_ (some 14) rfl rfl Tryd.func40 (by kernel_rfl) rfl #[.string (⟨#[97, 195, 169]⟩ : ByteArray), .int .i64 1, .int .i64 (-1)] rfl (by (try simp only [List.map_toArray, List.map_cons, List.map_nil]); first | done | rfl | (simp only [List.length_drop, List.length_take]; rfl)) ?_; (with_reducible refine (utflib_Len.calls (⟨#[97, 195, 169]⟩ : ByteArray) 1 (-1) t233 t234 t235 _ A1.out ?hT_).mono ?_); (case hT_ => exact tab_step HT_ (by repeat (first | (with_reducible first | exact HB.out | apply below_alloc | apply pw_below_drewN | apply below_drew1) | exact HB.out))); rintro e w46 ⟨rfl, hb⟩; refine ⟨_, rfl, ?_⟩; have n0_ := Aside0.mk (below_step (by repeat (first | (with_reducible first | exact HB.out | apply below_alloc | apply pw_below_drewN | apply below_drew1) | exact HB.out)) hb); clear HB; have HB := n0_; clear n0_; (try clear hb); (try clear hb2); (try clear hk); (try clear hi)) | ((with_reducible refine gate_dst (N := 19) rfl ?_); refine Kd.R_lit (Kd.int .i64) _ 3 ?hg (N := 19) ?hd (xs := ([97, 8364] : List Int)) (inner := [.int .i64 97, .int .i64 8364]) (ok := fun _ => True) (okp := fun _ => True) ?hr ?hp (fun _ hk => hk) trivial (Below.refl _ _) (Nat.le_refl _) (by simp) ?_; (case hd => rfl); (case hg => rfl); (case hr => first | (go_simp; done) | (go_simp; rfl)); (case hp => exact (Reps.one (show Kd.M (Kd.int .i64) _ _ _ 97 [.int .i64 97] from rfl) (Reps.one (show Kd.M (Kd.int .i64) _ _ _ 8364 [.int .i64 8364] from rfl) (Reps.none _ _)))); intro v237 w47 ho48 hb hg_ hnew_; clear hg_ hnew_; (first | rw [← Ny236.out] at ho48 | (simp only [Int.reduceToNat] at ho48; rw [← Ny236.out] at ho48)); have n0_ := Aside0.mk (Kd.R_lower ho48 (below_size (by repeat (first | (with_reducible first | exact HB.out | apply below_alloc | apply pw_below_drewN | apply below_drew1) | exact HB.out)))); have n1_ := Aside0.mk (below_step (by repeat (first | (with_reducible first | exact HB.out | apply below_alloc | apply pw_below_drewN | apply below_drew1) | exact HB.out)) hb); clear HB; have HO238 := n0_; have HB := n1_; clear n0_ n1_; clear hb ho48; obtain ⟨Ao49, co49, eo49⟩ := Kd.R_slice HO238.out; subst eo49) | ((with_reducible refine gate_callee (f := 30) rfl ?_); refine goesL_ (some 20) rfl rfl Tryd.func30 (by kernel_rfl) rfl #[.slice Ao49 y236.length co49] rfl (by (try simp only [List.map_toArray, List.map_cons, List.map_nil]); first | done | rfl | (simp only [List.length_drop, List.length_take]; rfl)) ?_; (with_reducible refine (utflib_Char.calls _ _ y236 t239 t240 _ ?side1 ?side2 A2.out).mono ?_); (case side1 => repeat (first | exact (Kd.R_reads' HO238.out).2.2 | (with_reducible refine Kd.C_alloc ?_ _) | (with_reducible refine Kd.C_drewN ?_ _) | (with_reducible refine Kd.C_drew ?_))); (case side2 => exact (Kd.R_reads' HO238.out).2.1); rintro e w50 ⟨rfl, hb⟩; refine ⟨_, rfl, ?_⟩; have n0_ := Aside0.mk (Kd.R_below (by (with_reducible repeat (first | apply Kd.R_alloc | apply Kd.R_drewN | apply Kd.R_drew)); exact HO238.out) hb); have n1_ := Aside0.mk (below_step (by repeat (first | (with_reducible first | exact HB.out | apply below_alloc | apply pw_below_drewN | apply below_drew1) | exact HB.out)) hb); clear HO238; clear HB; have HO238 := n0_; have HB := n1_; clear n0_ n1_; (try clear hb); (try clear hb2); (try clear hk); (try clear hi)) | ((with_reducible refine gate_callee (f := 34) rfl ?_); refine goesL_ (some 24) rfl rfl Tryd.func34 (by kernel_rfl) rfl #[.string (⟨#[97, 195, 169, 98]⟩ : ByteArray), .int .i64 3, .int .i64 1] rfl (by (try simp only [List.map_toArray, List.map_cons, List.map_nil]); first | done | rfl | (simp only [List.length_drop, List.length_take]; rfl)) ?_; (with_reducible refine (utflib_Offset.calls k (⟨#[97, 195, 169, 98]⟩ : ByteArray) 3 1 t241 false t243 _ A3.out).mono ?_); rintro e w' ⟨rfl, ⟨nd, rfl⟩⟩; refine ⟨_, rfl, ?_⟩) | ((with_reducible refine gate_callee (f := 36) rfl ?_); refine goesL_ (some 29) rfl rfl Tryd.func36 (by kernel_rfl) rfl #[.string (⟨#[97, 195, 169]⟩ : ByteArray), .int .i64 1] rfl (by (try simp only [List.map_toArray, List.map_cons, List.map_nil]); first | done | rfl | (simp only [List.length_drop, List.length_take]; rfl)) ?_; (with_reducible refine (utflib_Step.calls k (⟨#[97, 195, 169]⟩ : ByteArray) 1 t244 t245 t246 t247 _ A4.out ?hT_).mono ?_); (case hT_ => exact tab_step HT_ (by repeat (first | (with_reducible first | exact HB.out | apply below_alloc | apply pw_below_drewN | apply below_drew1) | exact HB.out))); rintro e w51 ⟨rfl, hb⟩; refine ⟨_, rfl, ?_⟩; have n0_ := Aside0.mk (Kd.R_below (by (with_reducible repeat (first | apply Kd.R_alloc | apply Kd.R_drewN | apply Kd.R_drew)); exact HO238.out) hb); have n1_ := Aside0.mk (below_step (by repeat (first | (with_reducible first | exact HB.out | apply below_alloc | apply pw_below_drewN | apply below_drew1) | exact HB.out)) hb); clear HO238; clear HB; have HO238 := n0_; have HB := n1_; clear n0_ n1_; (try clear hb); (try clear hb2); (try clear hk); (try clear hi)))
                go_ret
                exact ⟨by first | rfl | (simp [errW_none, errW_some] <;> rfl) | (simp [*, errW_none, errW_some] <;> rfl), by repeat (first | (with_reducible first | exact HB.out | apply below_alloc | apply pw_below_drewN | apply below_drew1) | exact HB.out)⟩
            · rw [if_neg c10] at H
              have c10b0 : (t241 == 4) = false := beq_eq_false_iff_ne.mpr c10
              have c10b1 : (t241 != 4) = true := bne_iff_ne.mpr c10
              obtain rfl := Option.some.inj H
              go_enter Tryd.func32, Tryd.ntmps32
              go_wp2_with (first | ((with_reducible refine gate_callee (f := 40) rfl ?_); refine goesL_ (some 14) rfl rfl Tryd.func40 (by kernel_rfl) rfl #[.string (⟨#[97, 195, 169]⟩ : ByteArray), .int .i64 1, .int .i64 (-1)] rfl (by (try simp only [List.map_toArray, List.map_cons, List.map_nil]); first | done | rfl | (simp only [List.length_drop, List.length_take]; rfl)) ?_; (with_reducible refine (utflib_Len.calls (⟨#[97, 195, 169]⟩ : ByteArray) 1 (-1) t233 t234 t235 _ A1.out ?hT_).mono ?_); (case hT_ => exact tab_step HT_ (by repeat (first | (with_reducible first | exact HB.out | apply below_alloc | apply pw_below_drewN | apply below_drew1) | exact HB.out))); rintro e w52 ⟨rfl, hb⟩; refine ⟨_, rfl, ?_⟩; have n0_ := Aside0.mk (below_step (by repeat (first | (with_reducible first | exact HB.out | apply below_alloc | apply pw_below_drewN | apply below_drew1) | exact HB.out)) hb); clear HB; have HB := n0_; clear n0_; (try clear hb); (try clear hb2); (try clear hk); (try clear hi)) | ((with_reducible refine gate_dst (N := 19) rfl ?_); refine Kd.R_lit (Kd.int .i64) _ 3 ?hg (N := 19) ?hd (xs := ([97, 8364] : List Int)) (inner := [.int .i64 97, .int .i64 8364]) (ok := fun _ => True) (okp := fun _ => True) ?hr ?hp (fun _ hk => hk) trivial (Below.refl _ _) (Nat.le_refl _) (by simp) ?_; (case hd => rfl); (case hg => rfl); (case hr => first | (go_simp; done) | (go_simp; rfl)); (case hp => exact (Reps.one (show Kd.M (Kd.int .i64) _ _ _ 97 [.int .i64 97] from rfl) (Reps.one (show Kd.M (Kd.int .i64) _ _ _ 8364 [.int .i64 8364] from rfl) (Reps.none _ _)))); intro v237 w53 ho54 hb hg_ hnew_; clear hg_ hnew_; (first | rw [← Ny236.out] at ho54 | (simp only [Int.reduceToNat] at ho54; rw [← Ny236.out] at ho54)); have n0_ := Aside0.mk (Kd.R_lower ho54 (below_size (by repeat (first | (with_reducible first | exact HB.out | apply below_alloc | apply pw_below_drewN | apply below_drew1) | exact HB.out)))); have n1_ := Aside0.mk (below_step (by repeat (first | (with_reducible first | exact HB.out | apply below_alloc | apply pw_below_drewN | apply below_drew1) | exact HB.out)) hb); clear HB; have HO238 := n0_; have HB := n1_; clear n0_ n1_; clear hb ho54; obtain ⟨Ao55, co55, eo55⟩ := Kd.R_slice HO238.out; subst eo55) | ((with_reducible refine gate_callee (f := 30) rfl ?_); refine goesL_ (some 20) rfl rfl Tryd.func30 (by kernel_rfl) rfl #[.slice Ao55 y236.length co55] rfl (by (try simp only [List.map_toArray, List.map_cons, List.map_nil]); first | done | rfl | (simp only [List.length_drop, List.length_take]; rfl)) ?_; (with_reducible refine (utflib_Char.calls _ _ y236 t239 t240 _ ?side1 ?side2 A2.out).mono ?_); (case side1 => repeat (first | exact (Kd.R_reads' HO238.out).2.2 | (with_reducible refine Kd.C_alloc ?_ _) | (with_reducible refine Kd.C_drewN ?_ _) | (with_reducible refine Kd.C_drew ?_))); (case side2 => exact (Kd.R_reads' HO238.out).2.1); rintro e w56 ⟨rfl, hb⟩; refine ⟨_, rfl, ?_⟩; have n0_ := Aside0.mk (Kd.R_below (by (with_reducible repeat (first | apply Kd.R_alloc | apply Kd.R_drewN | apply Kd.R_drew)); exact HO238.out) hb); have n1_ := Aside0.mk (below_step (by repeat (first | (with_reducible first | exact HB.out | apply below_alloc | apply pw_below_drewN | apply below_drew1) | exact HB.out)) hb); clear HO238; clear HB; have HO238 := n0_; have HB := n1_; clear n0_ n1_; (try clear hb); (try clear hb2); (try clear hk); (try clear hi)) | ((with_reducible refine gate_callee (f := 34) rfl ?_); refine goesL_ (some 24) rfl rfl Tryd.func34 (by kernel_rfl) rfl #[.string (⟨#[97, 195, 169, 98]⟩ : ByteArray), .int .i64 3, .int .i64 1] rfl (by (try simp only [List.map_toArray, List.map_cons, List.map_nil]); first | done | rfl | (simp only [List.length_drop, List.length_take]; rfl)) ?_; (with_reducible refine (utflib_Offset.calls k (⟨#[97, 195, 169, 98]⟩ : ByteArray) 3 1 t241 t242 t243 _ A3.out).mono ?_); rintro e w' ⟨rfl, ⟨nd, rfl⟩⟩; refine ⟨_, rfl, ?_⟩) | ((with_reducible refine gate_callee (f := 36) rfl ?_); refine goesL_ (some 29) rfl rfl Tryd.func36 (by kernel_rfl) rfl #[.string (⟨#[97, 195, 169]⟩ : ByteArray), .int .i64 1] rfl (by (try simp only [List.map_toArray, List.map_cons, List.map_nil]); first | done | rfl | (simp only [List.length_drop, List.length_take]; rfl)) ?_; (with_reducible refine (utflib_Step.calls k (⟨#[97, 195, 169]⟩ : ByteArray) 1 t244 t245 t246 t247 _ A4.out ?hT_).mono ?_); (case hT_ => exact tab_step HT_ (by repeat (first | (with_reducible first | exact HB.out | apply below_alloc | apply pw_below_drewN | apply below_drew1) | exact HB.out))); rintro e w57 ⟨rfl, hb⟩; refine ⟨_, rfl, ?_⟩; have n0_ := Aside0.mk (Kd.R_below (by (with_reducible repeat (first | apply Kd.R_alloc | apply Kd.R_drewN | apply Kd.R_drew)); exact HO238.out) hb); have n1_ := Aside0.mk (below_step (by repeat (first | (with_reducible first | exact HB.out | apply below_alloc | apply pw_below_drewN | apply below_drew1) | exact HB.out)) hb); clear HO238; clear HB; have HO238 := n0_; have HB := n1_; clear n0_ n1_; (try clear hb); (try clear hb2); (try clear hk); (try clear hi)))
              go_ret
              exact ⟨by first | rfl | (simp [errW_none, errW_some] <;> rfl) | (simp [*, errW_none, errW_some] <;> rfl), by repeat (first | (with_reducible first | exact HB.out | apply below_alloc | apply pw_below_drewN | apply below_drew1) | exact HB.out)⟩
          · rw [if_neg c9] at H
            have c9b0 : (t240 == 0) = false := beq_eq_false_iff_ne.mpr c9
            have c9b1 : (t240 != 0) = true := bne_iff_ne.mpr c9
            obtain rfl := Option.some.inj H
            go_enter Tryd.func32, Tryd.ntmps32
            go_wp2_with (first | ((with_reducible refine gate_callee (f := 40) rfl ?_); refine goesL_ (some 14) rfl rfl Tryd.func40 (by kernel_rfl) rfl #[.string (⟨#[97, 195, 169]⟩ : ByteArray), .int .i64 1, .int .i64 (-1)] rfl (by (try simp only [List.map_toArray, List.map_cons, List.map_nil]); first | done | rfl | (simp only [List.length_drop, List.length_take]; rfl)) ?_; (with_reducible refine (utflib_Len.calls (⟨#[97, 195, 169]⟩ : ByteArray) 1 (-1) t233 t234 t235 _ A1.out ?hT_).mono ?_); (case hT_ => exact tab_step HT_ (by repeat (first | (with_reducible first | exact HB.out | apply below_alloc | apply pw_below_drewN | apply below_drew1) | exact HB.out))); rintro e w58 ⟨rfl, hb⟩; refine ⟨_, rfl, ?_⟩; have n0_ := Aside0.mk (below_step (by repeat (first | (with_reducible first | exact HB.out | apply below_alloc | apply pw_below_drewN | apply below_drew1) | exact HB.out)) hb); clear HB; have HB := n0_; clear n0_; (try clear hb); (try clear hb2); (try clear hk); (try clear hi)) | ((with_reducible refine gate_dst (N := 19) rfl ?_); refine Kd.R_lit (Kd.int .i64) _ 3 ?hg (N := 19) ?hd (xs := ([97, 8364] : List Int)) (inner := [.int .i64 97, .int .i64 8364]) (ok := fun _ => True) (okp := fun _ => True) ?hr ?hp (fun _ hk => hk) trivial (Below.refl _ _) (Nat.le_refl _) (by simp) ?_; (case hd => rfl); (case hg => rfl); (case hr => first | (go_simp; done) | (go_simp; rfl)); (case hp => exact (Reps.one (show Kd.M (Kd.int .i64) _ _ _ 97 [.int .i64 97] from rfl) (Reps.one (show Kd.M (Kd.int .i64) _ _ _ 8364 [.int .i64 8364] from rfl) (Reps.none _ _)))); intro v237 w59 ho60 hb hg_ hnew_; clear hg_ hnew_; (first | rw [← Ny236.out] at ho60 | (simp only [Int.reduceToNat] at ho60; rw [← Ny236.out] at ho60)); have n0_ := Aside0.mk (Kd.R_lower ho60 (below_size (by repeat (first | (with_reducible first | exact HB.out | apply below_alloc | apply pw_below_drewN | apply below_drew1) | exact HB.out)))); have n1_ := Aside0.mk (below_step (by repeat (first | (with_reducible first | exact HB.out | apply below_alloc | apply pw_below_drewN | apply below_drew1) | exact HB.out)) hb); clear HB; have HO238 := n0_; have HB := n1_; clear n0_ n1_; clear hb ho60; obtain ⟨Ao61, co61, eo61⟩ := Kd.R_slice HO238.out; subst eo61) | ((with_reducible refine gate_callee (f := 30) rfl ?_); refine goesL_ (some 20) rfl rfl Tryd.func30 (by kernel_rfl) rfl #[.slice Ao61 y236.length co61] rfl (by (try simp only [List.map_toArray, List.map_cons, List.map_nil]); first | done | rfl | (simp only [List.length_drop, List.length_take]; rfl)) ?_; (with_reducible refine (utflib_Char.calls _ _ y236 t239 t240 _ ?side1 ?side2 A2.out).mono ?_); (case side1 => repeat (first | exact (Kd.R_reads' HO238.out).2.2 | (with_reducible refine Kd.C_alloc ?_ _) | (with_reducible refine Kd.C_drewN ?_ _) | (with_reducible refine Kd.C_drew ?_))); (case side2 => exact (Kd.R_reads' HO238.out).2.1); rintro e w62 ⟨rfl, hb⟩; refine ⟨_, rfl, ?_⟩; have n0_ := Aside0.mk (Kd.R_below (by (with_reducible repeat (first | apply Kd.R_alloc | apply Kd.R_drewN | apply Kd.R_drew)); exact HO238.out) hb); have n1_ := Aside0.mk (below_step (by repeat (first | (with_reducible first | exact HB.out | apply below_alloc | apply pw_below_drewN | apply below_drew1) | exact HB.out)) hb); clear HO238; clear HB; have HO238 := n0_; have HB := n1_; clear n0_ n1_; (try clear hb); (try clear hb2); (try clear hk); (try clear hi)) | ((with_reducible refine gate_callee (f := 34) rfl ?_); refine goesL_ (some 24) rfl rfl Tryd.func34 (by kernel_rfl) rfl #[.string (⟨#[97, 195, 169, 98]⟩ : ByteArray), .int .i64 3, .int .i64 1] rfl (by (try simp only [List.map_toArray, List.map_cons, List.map_nil]); first | done | rfl | (simp only [List.length_drop, List.length_take]; rfl)) ?_; (with_reducible refine (utflib_Offset.calls k (⟨#[97, 195, 169, 98]⟩ : ByteArray) 3 1 t241 t242 t243 _ A3.out).mono ?_); rintro e w' ⟨rfl, ⟨nd, rfl⟩⟩; refine ⟨_, rfl, ?_⟩) | ((with_reducible refine gate_callee (f := 36) rfl ?_); refine goesL_ (some 29) rfl rfl Tryd.func36 (by kernel_rfl) rfl #[.string (⟨#[97, 195, 169]⟩ : ByteArray), .int .i64 1] rfl (by (try simp only [List.map_toArray, List.map_cons, List.map_nil]); first | done | rfl | (simp only [List.length_drop, List.length_take]; rfl)) ?_; (with_reducible refine (utflib_Step.calls k (⟨#[97, 195, 169]⟩ : ByteArray) 1 t244 t245 t246 t247 _ A4.out ?hT_).mono ?_); (case hT_ => exact tab_step HT_ (by repeat (first | (with_reducible first | exact HB.out | apply below_alloc | apply pw_below_drewN | apply below_drew1) | exact HB.out))); rintro e w63 ⟨rfl, hb⟩; refine ⟨_, rfl, ?_⟩; have n0_ := Aside0.mk (Kd.R_below (by (with_reducible repeat (first | apply Kd.R_alloc | apply Kd.R_drewN | apply Kd.R_drew)); exact HO238.out) hb); have n1_ := Aside0.mk (below_step (by repeat (first | (with_reducible first | exact HB.out | apply below_alloc | apply pw_below_drewN | apply below_drew1) | exact HB.out)) hb); clear HO238; clear HB; have HO238 := n0_; have HB := n1_; clear n0_ n1_; (try clear hb); (try clear hb2); (try clear hk); (try clear hi)))
            go_ret
            exact ⟨by first | rfl | (simp [errW_none, errW_some] <;> rfl) | (simp [*, errW_none, errW_some] <;> rfl), by repeat (first | (with_reducible first | exact HB.out | apply below_alloc | apply pw_below_drewN | apply below_drew1) | exact HB.out)⟩
        · rw [if_neg c8] at H
          have c8b0 : (t239.toList == ([97, 226, 130, 172] : List UInt8)) = false := beq_eq_false_iff_ne.mpr c8
          have c8b1 : (t239.toList != ([97, 226, 130, 172] : List UInt8)) = true := bne_iff_ne.mpr c8
          obtain rfl := Option.some.inj H
          go_enter Tryd.func32, Tryd.ntmps32
          go_wp2_with (first | ((with_reducible refine gate_callee (f := 40) rfl ?_); refine goesL_ (some 14) rfl rfl Tryd.func40 (by kernel_rfl) rfl #[.string (⟨#[97, 195, 169]⟩ : ByteArray), .int .i64 1, .int .i64 (-1)] rfl (by (try simp only [List.map_toArray, List.map_cons, List.map_nil]); first | done | rfl | (simp only [List.length_drop, List.length_take]; rfl)) ?_; (with_reducible refine (utflib_Len.calls (⟨#[97, 195, 169]⟩ : ByteArray) 1 (-1) t233 t234 t235 _ A1.out ?hT_).mono ?_); (case hT_ => exact tab_step HT_ (by repeat (first | (with_reducible first | exact HB.out | apply below_alloc | apply pw_below_drewN | apply below_drew1) | exact HB.out))); rintro e w64 ⟨rfl, hb⟩; refine ⟨_, rfl, ?_⟩; have n0_ := Aside0.mk (below_step (by repeat (first | (with_reducible first | exact HB.out | apply below_alloc | apply pw_below_drewN | apply below_drew1) | exact HB.out)) hb); clear HB; have HB := n0_; clear n0_; (try clear hb); (try clear hb2); (try clear hk); (try clear hi)) | ((with_reducible refine gate_dst (N := 19) rfl ?_); refine Kd.R_lit (Kd.int .i64) _ 3 ?hg (N := 19) ?hd (xs := ([97, 8364] : List Int)) (inner := [.int .i64 97, .int .i64 8364]) (ok := fun _ => True) (okp := fun _ => True) ?hr ?hp (fun _ hk => hk) trivial (Below.refl _ _) (Nat.le_refl _) (by simp) ?_; (case hd => rfl); (case hg => rfl); (case hr => first | (go_simp; done) | (go_simp; rfl)); (case hp => exact (Reps.one (show Kd.M (Kd.int .i64) _ _ _ 97 [.int .i64 97] from rfl) (Reps.one (show Kd.M (Kd.int .i64) _ _ _ 8364 [.int .i64 8364] from rfl) (Reps.none _ _)))); intro v237 w65 ho66 hb hg_ hnew_; clear hg_ hnew_; (first | rw [← Ny236.out] at ho66 | (simp only [Int.reduceToNat] at ho66; rw [← Ny236.out] at ho66)); have n0_ := Aside0.mk (Kd.R_lower ho66 (below_size (by repeat (first | (with_reducible first | exact HB.out | apply below_alloc | apply pw_below_drewN | apply below_drew1) | exact HB.out)))); have n1_ := Aside0.mk (below_step (by repeat (first | (with_reducible first | exact HB.out | apply below_alloc | apply pw_below_drewN | apply below_drew1) | exact HB.out)) hb); clear HB; have HO238 := n0_; have HB := n1_; clear n0_ n1_; clear hb ho66; obtain ⟨Ao67, co67, eo67⟩ := Kd.R_slice HO238.out; subst eo67) | ((with_reducible refine gate_callee (f := 30) rfl ?_); refine goesL_ (some 20) rfl rfl Tryd.func30 (by kernel_rfl) rfl #[.slice Ao67 y236.length co67] rfl (by (try simp only [List.map_toArray, List.map_cons, List.map_nil]); first | done | rfl | (simp only [List.length_drop, List.length_take]; rfl)) ?_; (with_reducible refine (utflib_Char.calls _ _ y236 t239 t240 _ ?side1 ?side2 A2.out).mono ?_); (case side1 => repeat (first | exact (Kd.R_reads' HO238.out).2.2 | (with_reducible refine Kd.C_alloc ?_ _) | (with_reducible refine Kd.C_drewN ?_ _) | (with_reducible refine Kd.C_drew ?_))); (case side2 => exact (Kd.R_reads' HO238.out).2.1); rintro e w68 ⟨rfl, hb⟩; refine ⟨_, rfl, ?_⟩; have n0_ := Aside0.mk (Kd.R_below (by (with_reducible repeat (first | apply Kd.R_alloc | apply Kd.R_drewN | apply Kd.R_drew)); exact HO238.out) hb); have n1_ := Aside0.mk (below_step (by repeat (first | (with_reducible first | exact HB.out | apply below_alloc | apply pw_below_drewN | apply below_drew1) | exact HB.out)) hb); clear HO238; clear HB; have HO238 := n0_; have HB := n1_; clear n0_ n1_; (try clear hb); (try clear hb2); (try clear hk); (try clear hi)) | ((with_reducible refine gate_callee (f := 34) rfl ?_); refine goesL_ (some 24) rfl rfl Tryd.func34 (by kernel_rfl) rfl #[.string (⟨#[97, 195, 169, 98]⟩ : ByteArray), .int .i64 3, .int .i64 1] rfl (by (try simp only [List.map_toArray, List.map_cons, List.map_nil]); first | done | rfl | (simp only [List.length_drop, List.length_take]; rfl)) ?_; (with_reducible refine (utflib_Offset.calls k (⟨#[97, 195, 169, 98]⟩ : ByteArray) 3 1 t241 t242 t243 _ A3.out).mono ?_); rintro e w' ⟨rfl, ⟨nd, rfl⟩⟩; refine ⟨_, rfl, ?_⟩) | ((with_reducible refine gate_callee (f := 36) rfl ?_); refine goesL_ (some 29) rfl rfl Tryd.func36 (by kernel_rfl) rfl #[.string (⟨#[97, 195, 169]⟩ : ByteArray), .int .i64 1] rfl (by (try simp only [List.map_toArray, List.map_cons, List.map_nil]); first | done | rfl | (simp only [List.length_drop, List.length_take]; rfl)) ?_; (with_reducible refine (utflib_Step.calls k (⟨#[97, 195, 169]⟩ : ByteArray) 1 t244 t245 t246 t247 _ A4.out ?hT_).mono ?_); (case hT_ => exact tab_step HT_ (by repeat (first | (with_reducible first | exact HB.out | apply below_alloc | apply pw_below_drewN | apply below_drew1) | exact HB.out))); rintro e w69 ⟨rfl, hb⟩; refine ⟨_, rfl, ?_⟩; have n0_ := Aside0.mk (Kd.R_below (by (with_reducible repeat (first | apply Kd.R_alloc | apply Kd.R_drewN | apply Kd.R_drew)); exact HO238.out) hb); have n1_ := Aside0.mk (below_step (by repeat (first | (with_reducible first | exact HB.out | apply below_alloc | apply pw_below_drewN | apply below_drew1) | exact HB.out)) hb); clear HO238; clear HB; have HO238 := n0_; have HB := n1_; clear n0_ n1_; (try clear hb); (try clear hb2); (try clear hk); (try clear hi)))
          go_ret
          exact ⟨by first | rfl | (simp [errW_none, errW_some] <;> rfl) | (simp [*, errW_none, errW_some] <;> rfl), by repeat (first | (with_reducible first | exact HB.out | apply below_alloc | apply pw_below_drewN | apply below_drew1) | exact HB.out)⟩
      · rw [if_neg c7] at H
        have c7b0 : (t235 == 0) = false := beq_eq_false_iff_ne.mpr c7
        have c7b1 : (t235 != 0) = true := bne_iff_ne.mpr c7
        obtain rfl := Option.some.inj H
        go_enter Tryd.func32, Tryd.ntmps32
        go_wp2_with (first | ((with_reducible refine gate_callee (f := 40) rfl ?_); refine goesL_ (some 14) rfl rfl Tryd.func40 (by kernel_rfl) rfl #[.string (⟨#[97, 195, 169]⟩ : ByteArray), .int .i64 1, .int .i64 (-1)] rfl (by (try simp only [List.map_toArray, List.map_cons, List.map_nil]); first | done | rfl | (simp only [List.length_drop, List.length_take]; rfl)) ?_; (with_reducible refine (utflib_Len.calls (⟨#[97, 195, 169]⟩ : ByteArray) 1 (-1) t233 t234 t235 _ A1.out ?hT_).mono ?_); (case hT_ => exact tab_step HT_ (by repeat (first | (with_reducible first | exact HB.out | apply below_alloc | apply pw_below_drewN | apply below_drew1) | exact HB.out))); rintro e w70 ⟨rfl, hb⟩; refine ⟨_, rfl, ?_⟩; have n0_ := Aside0.mk (below_step (by repeat (first | (with_reducible first | exact HB.out | apply below_alloc | apply pw_below_drewN | apply below_drew1) | exact HB.out)) hb); clear HB; have HB := n0_; clear n0_; (try clear hb); (try clear hb2); (try clear hk); (try clear hi)) | ((with_reducible refine gate_dst (N := 19) rfl ?_); refine Kd.R_lit (Kd.int .i64) _ 3 ?hg (N := 19) ?hd (xs := ([97, 8364] : List Int)) (inner := [.int .i64 97, .int .i64 8364]) (ok := fun _ => True) (okp := fun _ => True) ?hr ?hp (fun _ hk => hk) trivial (Below.refl _ _) (Nat.le_refl _) (by simp) ?_; (case hd => rfl); (case hg => rfl); (case hr => first | (go_simp; done) | (go_simp; rfl)); (case hp => exact (Reps.one (show Kd.M (Kd.int .i64) _ _ _ 97 [.int .i64 97] from rfl) (Reps.one (show Kd.M (Kd.int .i64) _ _ _ 8364 [.int .i64 8364] from rfl) (Reps.none _ _)))); intro v237 w71 ho72 hb hg_ hnew_; clear hg_ hnew_; (first | rw [← Ny236.out] at ho72 | (simp only [Int.reduceToNat] at ho72; rw [← Ny236.out] at ho72)); have n0_ := Aside0.mk (Kd.R_lower ho72 (below_size (by repeat (first | (with_reducible first | exact HB.out | apply below_alloc | apply pw_below_drewN | apply below_drew1) | exact HB.out)))); have n1_ := Aside0.mk (below_step (by repeat (first | (with_reducible first | exact HB.out | apply below_alloc | apply pw_below_drewN | apply below_drew1) | exact HB.out)) hb); clear HB; have HO238 := n0_; have HB := n1_; clear n0_ n1_; clear hb ho72; obtain ⟨Ao73, co73, eo73⟩ := Kd.R_slice HO238.out; subst eo73) | ((with_reducible refine gate_callee (f := 30) rfl ?_); refine goesL_ (some 20) rfl rfl Tryd.func30 (by kernel_rfl) rfl #[.slice Ao73 y236.length co73] rfl (by (try simp only [List.map_toArray, List.map_cons, List.map_nil]); first | done | rfl | (simp only [List.length_drop, List.length_take]; rfl)) ?_; (with_reducible refine (utflib_Char.calls _ _ y236 t239 t240 _ ?side1 ?side2 A2.out).mono ?_); (case side1 => repeat (first | exact (Kd.R_reads' HO238.out).2.2 | (with_reducible refine Kd.C_alloc ?_ _) | (with_reducible refine Kd.C_drewN ?_ _) | (with_reducible refine Kd.C_drew ?_))); (case side2 => exact (Kd.R_reads' HO238.out).2.1); rintro e w74 ⟨rfl, hb⟩; refine ⟨_, rfl, ?_⟩; have n0_ := Aside0.mk (Kd.R_below (by (with_reducible repeat (first | apply Kd.R_alloc | apply Kd.R_drewN | apply Kd.R_drew)); exact HO238.out) hb); have n1_ := Aside0.mk (below_step (by repeat (first | (with_reducible first | exact HB.out | apply below_alloc | apply pw_below_drewN | apply below_drew1) | exact HB.out)) hb); clear HO238; clear HB; have HO238 := n0_; have HB := n1_; clear n0_ n1_; (try clear hb); (try clear hb2); (try clear hk); (try clear hi)) | ((with_reducible refine gate_callee (f := 34) rfl ?_); refine goesL_ (some 24) rfl rfl Tryd.func34 (by kernel_rfl) rfl #[.string (⟨#[97, 195, 169, 98]⟩ : ByteArray), .int .i64 3, .int .i64 1] rfl (by (try simp only [List.map_toArray, List.map_cons, List.map_nil]); first | done | rfl | (simp only [List.length_drop, List.length_take]; rfl)) ?_; (with_reducible refine (utflib_Offset.calls k (⟨#[97, 195, 169, 98]⟩ : ByteArray) 3 1 t241 t242 t243 _ A3.out).mono ?_); rintro e w' ⟨rfl, ⟨nd, rfl⟩⟩; refine ⟨_, rfl, ?_⟩) | ((with_reducible refine gate_callee (f := 36) rfl ?_); refine goesL_ (some 29) rfl rfl Tryd.func36 (by kernel_rfl) rfl #[.string (⟨#[97, 195, 169]⟩ : ByteArray), .int .i64 1] rfl (by (try simp only [List.map_toArray, List.map_cons, List.map_nil]); first | done | rfl | (simp only [List.length_drop, List.length_take]; rfl)) ?_; (with_reducible refine (utflib_Step.calls k (⟨#[97, 195, 169]⟩ : ByteArray) 1 t244 t245 t246 t247 _ A4.out ?hT_).mono ?_); (case hT_ => exact tab_step HT_ (by repeat (first | (with_reducible first | exact HB.out | apply below_alloc | apply pw_below_drewN | apply below_drew1) | exact HB.out))); rintro e w75 ⟨rfl, hb⟩; refine ⟨_, rfl, ?_⟩; have n0_ := Aside0.mk (Kd.R_below (by (with_reducible repeat (first | apply Kd.R_alloc | apply Kd.R_drewN | apply Kd.R_drew)); exact HO238.out) hb); have n1_ := Aside0.mk (below_step (by repeat (first | (with_reducible first | exact HB.out | apply below_alloc | apply pw_below_drewN | apply below_drew1) | exact HB.out)) hb); clear HO238; clear HB; have HO238 := n0_; have HB := n1_; clear n0_ n1_; (try clear hb); (try clear hb2); (try clear hk); (try clear hi)))
        go_ret
        exact ⟨by first | rfl | (simp [errW_none, errW_some] <;> rfl) | (simp [*, errW_none, errW_some] <;> rfl), by repeat (first | (with_reducible first | exact HB.out | apply below_alloc | apply pw_below_drewN | apply below_drew1) | exact HB.out)⟩
    · rw [if_neg c6] at H
      have c6b0 : (t234 == 0) = false := beq_eq_false_iff_ne.mpr c6
      have c6b1 : (t234 != 0) = true := bne_iff_ne.mpr c6
      obtain rfl := Option.some.inj H
      go_enter Tryd.func32, Tryd.ntmps32
      go_wp2_with (first | ((with_reducible refine gate_callee (f := 40) rfl ?_); refine goesL_ (some 14) rfl rfl Tryd.func40 (by kernel_rfl) rfl #[.string (⟨#[97, 195, 169]⟩ : ByteArray), .int .i64 1, .int .i64 (-1)] rfl (by (try simp only [List.map_toArray, List.map_cons, List.map_nil]); first | done | rfl | (simp only [List.length_drop, List.length_take]; rfl)) ?_; (with_reducible refine (utflib_Len.calls (⟨#[97, 195, 169]⟩ : ByteArray) 1 (-1) t233 t234 t235 _ A1.out ?hT_).mono ?_); (case hT_ => exact tab_step HT_ (by repeat (first | (with_reducible first | exact HB.out | apply below_alloc | apply pw_below_drewN | apply below_drew1) | exact HB.out))); rintro e w76 ⟨rfl, hb⟩; refine ⟨_, rfl, ?_⟩; have n0_ := Aside0.mk (below_step (by repeat (first | (with_reducible first | exact HB.out | apply below_alloc | apply pw_below_drewN | apply below_drew1) | exact HB.out)) hb); clear HB; have HB := n0_; clear n0_; (try clear hb); (try clear hb2); (try clear hk); (try clear hi)) | ((with_reducible refine gate_dst (N := 19) rfl ?_); refine Kd.R_lit (Kd.int .i64) _ 3 ?hg (N := 19) ?hd (xs := ([97, 8364] : List Int)) (inner := [.int .i64 97, .int .i64 8364]) (ok := fun _ => True) (okp := fun _ => True) ?hr ?hp (fun _ hk => hk) trivial (Below.refl _ _) (Nat.le_refl _) (by simp) ?_; (case hd => rfl); (case hg => rfl); (case hr => first | (go_simp; done) | (go_simp; rfl)); (case hp => exact (Reps.one (show Kd.M (Kd.int .i64) _ _ _ 97 [.int .i64 97] from rfl) (Reps.one (show Kd.M (Kd.int .i64) _ _ _ 8364 [.int .i64 8364] from rfl) (Reps.none _ _)))); intro v237 w77 ho78 hb hg_ hnew_; clear hg_ hnew_; (first | rw [← Ny236.out] at ho78 | (simp only [Int.reduceToNat] at ho78; rw [← Ny236.out] at ho78)); have n0_ := Aside0.mk (Kd.R_lower ho78 (below_size (by repeat (first | (with_reducible first | exact HB.out | apply below_alloc | apply pw_below_drewN | apply below_drew1) | exact HB.out)))); have n1_ := Aside0.mk (below_step (by repeat (first | (with_reducible first | exact HB.out | apply below_alloc | apply pw_below_drewN | apply below_drew1) | exact HB.out)) hb); clear HB; have HO238 := n0_; have HB := n1_; clear n0_ n1_; clear hb ho78; obtain ⟨Ao79, co79, eo79⟩ := Kd.R_slice HO238.out; subst eo79) | ((with_reducible refine gate_callee (f := 30) rfl ?_); refine goesL_ (some 20) rfl rfl Tryd.func30 (by kernel_rfl) rfl #[.slice Ao79 y236.length co79] rfl (by (try simp only [List.map_toArray, List.map_cons, List.map_nil]); first | done | rfl | (simp only [List.length_drop, List.length_take]; rfl)) ?_; (with_reducible refine (utflib_Char.calls _ _ y236 t239 t240 _ ?side1 ?side2 A2.out).mono ?_); (case side1 => repeat (first | exact (Kd.R_reads' HO238.out).2.2 | (with_reducible refine Kd.C_alloc ?_ _) | (with_reducible refine Kd.C_drewN ?_ _) | (with_reducible refine Kd.C_drew ?_))); (case side2 => exact (Kd.R_reads' HO238.out).2.1); rintro e w80 ⟨rfl, hb⟩; refine ⟨_, rfl, ?_⟩; have n0_ := Aside0.mk (Kd.R_below (by (with_reducible repeat (first | apply Kd.R_alloc | apply Kd.R_drewN | apply Kd.R_drew)); exact HO238.out) hb); have n1_ := Aside0.mk (below_step (by repeat (first | (with_reducible first | exact HB.out | apply below_alloc | apply pw_below_drewN | apply below_drew1) | exact HB.out)) hb); clear HO238; clear HB; have HO238 := n0_; have HB := n1_; clear n0_ n1_; (try clear hb); (try clear hb2); (try clear hk); (try clear hi)) | ((with_reducible refine gate_callee (f := 34) rfl ?_); refine goesL_ (some 24) rfl rfl Tryd.func34 (by kernel_rfl) rfl #[.string (⟨#[97, 195, 169, 98]⟩ : ByteArray), .int .i64 3, .int .i64 1] rfl (by (try simp only [List.map_toArray, List.map_cons, List.map_nil]); first | done | rfl | (simp only [List.length_drop, List.length_take]; rfl)) ?_; (with_reducible refine (utflib_Offset.calls k (⟨#[97, 195, 169, 98]⟩ : ByteArray) 3 1 t241 t242 t243 _ A3.out).mono ?_); rintro e w' ⟨rfl, ⟨nd, rfl⟩⟩; refine ⟨_, rfl, ?_⟩) | ((with_reducible refine gate_callee (f := 36) rfl ?_); refine goesL_ (some 29) rfl rfl Tryd.func36 (by kernel_rfl) rfl #[.string (⟨#[97, 195, 169]⟩ : ByteArray), .int .i64 1] rfl (by (try simp only [List.map_toArray, List.map_cons, List.map_nil]); first | done | rfl | (simp only [List.length_drop, List.length_take]; rfl)) ?_; (with_reducible refine (utflib_Step.calls k (⟨#[97, 195, 169]⟩ : ByteArray) 1 t244 t245 t246 t247 _ A4.out ?hT_).mono ?_); (case hT_ => exact tab_step HT_ (by repeat (first | (with_reducible first | exact HB.out | apply below_alloc | apply pw_below_drewN | apply below_drew1) | exact HB.out))); rintro e w81 ⟨rfl, hb⟩; refine ⟨_, rfl, ?_⟩; have n0_ := Aside0.mk (Kd.R_below (by (with_reducible repeat (first | apply Kd.R_alloc | apply Kd.R_drewN | apply Kd.R_drew)); exact HO238.out) hb); have n1_ := Aside0.mk (below_step (by repeat (first | (with_reducible first | exact HB.out | apply below_alloc | apply pw_below_drewN | apply below_drew1) | exact HB.out)) hb); clear HO238; clear HB; have HO238 := n0_; have HB := n1_; clear n0_ n1_; (try clear hb); (try clear hb2); (try clear hk); (try clear hi)))
      go_ret
      exact ⟨by first | rfl | (simp [errW_none, errW_some] <;> rfl) | (simp [*, errW_none, errW_some] <;> rfl), by repeat (first | (with_reducible first | exact HB.out | apply below_alloc | apply pw_below_drewN | apply below_drew1) | exact HB.out)⟩
  · rw [if_neg c5] at H
    have c5b0 : (t233 == 2) = false := beq_eq_false_iff_ne.mpr c5
    have c5b1 : (t233 != 2) = true := bne_iff_ne.mpr c5
    obtain rfl := Option.some.inj H
    go_enter Tryd.func32, Tryd.ntmps32
    go_wp2_with (first | ((with_reducible refine gate_callee (f := 40) rfl ?_); refine goesL_ (some 14) rfl rfl Tryd.func40 (by kernel_rfl) rfl #[.string (⟨#[97, 195, 169]⟩ : ByteArray), .int .i64 1, .int .i64 (-1)] rfl (by (try simp only [List.map_toArray, List.map_cons, List.map_nil]); first | done | rfl | (simp only [List.length_drop, List.length_take]; rfl)) ?_; (with_reducible refine (utflib_Len.calls (⟨#[97, 195, 169]⟩ : ByteArray) 1 (-1) t233 t234 t235 _ A1.out ?hT_).mono ?_); (case hT_ => exact tab_step HT_ (by repeat (first | (with_reducible first | exact HB.out | apply below_alloc | apply pw_below_drewN | apply below_drew1) | exact HB.out))); rintro e w82 ⟨rfl, hb⟩; refine ⟨_, rfl, ?_⟩; have n0_ := Aside0.mk (below_step (by repeat (first | (with_reducible first | exact HB.out | apply below_alloc | apply pw_below_drewN | apply below_drew1) | exact HB.out)) hb); clear HB; have HB := n0_; clear n0_; (try clear hb); (try clear hb2); (try clear hk); (try clear hi)) | ((with_reducible refine gate_dst (N := 19) rfl ?_); refine Kd.R_lit (Kd.int .i64) _ 3 ?hg (N := 19) ?hd (xs := ([97, 8364] : List Int)) (inner := [.int .i64 97, .int .i64 8364]) (ok := fun _ => True) (okp := fun _ => True) ?hr ?hp (fun _ hk => hk) trivial (Below.refl _ _) (Nat.le_refl _) (by simp) ?_; (case hd => rfl); (case hg => rfl); (case hr => first | (go_simp; done) | (go_simp; rfl)); (case hp => exact (Reps.one (show Kd.M (Kd.int .i64) _ _ _ 97 [.int .i64 97] from rfl) (Reps.one (show Kd.M (Kd.int .i64) _ _ _ 8364 [.int .i64 8364] from rfl) (Reps.none _ _)))); intro v237 w83 ho84 hb hg_ hnew_; clear hg_ hnew_; (first | rw [← Ny236.out] at ho84 | (simp only [Int.reduceToNat] at ho84; rw [← Ny236.out] at ho84)); have n0_ := Aside0.mk (Kd.R_lower ho84 (below_size (by repeat (first | (with_reducible first | exact HB.out | apply below_alloc | apply pw_below_drewN | apply below_drew1) | exact HB.out)))); have n1_ := Aside0.mk (below_step (by repeat (first | (with_reducible first | exact HB.out | apply below_alloc | apply pw_below_drewN | apply below_drew1) | exact HB.out)) hb); clear HB; have HO238 := n0_; have HB := n1_; clear n0_ n1_; clear hb ho84; obtain ⟨Ao85, co85, eo85⟩ := Kd.R_slice HO238.out; subst eo85) | ((with_reducible refine gate_callee (f := 30) rfl ?_); refine goesL_ (some 20) rfl rfl Tryd.func30 (by kernel_rfl) rfl #[.slice Ao85 y236.length co85] rfl (by (try simp only [List.map_toArray, List.map_cons, List.map_nil]); first | done | rfl | (simp only [List.length_drop, List.length_take]; rfl)) ?_; (with_reducible refine (utflib_Char.calls _ _ y236 t239 t240 _ ?side1 ?side2 A2.out).mono ?_); (case side1 => repeat (first | exact (Kd.R_reads' HO238.out).2.2 | (with_reducible refine Kd.C_alloc ?_ _) | (with_reducible refine Kd.C_drewN ?_ _) | (with_reducible refine Kd.C_drew ?_))); (case side2 => exact (Kd.R_reads' HO238.out).2.1); rintro e w86 ⟨rfl, hb⟩; refine ⟨_, rfl, ?_⟩; have n0_ := Aside0.mk (Kd.R_below (by (with_reducible repeat (first | apply Kd.R_alloc | apply Kd.R_drewN | apply Kd.R_drew)); exact HO238.out) hb); have n1_ := Aside0.mk (below_step (by repeat (first | (with_reducible first | exact HB.out | apply below_alloc | apply pw_below_drewN | apply below_drew1) | exact HB.out)) hb); clear HO238; clear HB; have HO238 := n0_; have HB := n1_; clear n0_ n1_; (try clear hb); (try clear hb2); (try clear hk); (try clear hi)) | ((with_reducible refine gate_callee (f := 34) rfl ?_); refine goesL_ (some 24) rfl rfl Tryd.func34 (by kernel_rfl) rfl #[.string (⟨#[97, 195, 169, 98]⟩ : ByteArray), .int .i64 3, .int .i64 1] rfl (by (try simp only [List.map_toArray, List.map_cons, List.map_nil]); first | done | rfl | (simp only [List.length_drop, List.length_take]; rfl)) ?_; (with_reducible refine (utflib_Offset.calls k (⟨#[97, 195, 169, 98]⟩ : ByteArray) 3 1 t241 t242 t243 _ A3.out).mono ?_); rintro e w' ⟨rfl, ⟨nd, rfl⟩⟩; refine ⟨_, rfl, ?_⟩) | ((with_reducible refine gate_callee (f := 36) rfl ?_); refine goesL_ (some 29) rfl rfl Tryd.func36 (by kernel_rfl) rfl #[.string (⟨#[97, 195, 169]⟩ : ByteArray), .int .i64 1] rfl (by (try simp only [List.map_toArray, List.map_cons, List.map_nil]); first | done | rfl | (simp only [List.length_drop, List.length_take]; rfl)) ?_; (with_reducible refine (utflib_Step.calls k (⟨#[97, 195, 169]⟩ : ByteArray) 1 t244 t245 t246 t247 _ A4.out ?hT_).mono ?_); (case hT_ => exact tab_step HT_ (by repeat (first | (with_reducible first | exact HB.out | apply below_alloc | apply pw_below_drewN | apply below_drew1) | exact HB.out))); rintro e w87 ⟨rfl, hb⟩; refine ⟨_, rfl, ?_⟩; have n0_ := Aside0.mk (Kd.R_below (by (with_reducible repeat (first | apply Kd.R_alloc | apply Kd.R_drewN | apply Kd.R_drew)); exact HO238.out) hb); have n1_ := Aside0.mk (below_step (by repeat (first | (with_reducible first | exact HB.out | apply below_alloc | apply pw_below_drewN | apply below_drew1) | exact HB.out)) hb); clear HO238; clear HB; have HO238 := n0_; have HB := n1_; clear n0_ n1_; (try clear hb); (try clear hb2); (try clear hk); (try clear hi)))
    go_ret
    exact ⟨by first | rfl | (simp [errW_none, errW_some] <;> rfl) | (simp [*, errW_none, errW_some] <;> rfl), by repeat (first | (with_reducible first | exact HB.out | apply below_alloc | apply pw_below_drewN | apply below_drew1) | exact HB.out)⟩

/-! ### trestleref04_SameInts: function 33 -/
def trestleref04_SameInts.l0 : Nat → List Int → List Int → Int → Option (Bool)
  | 0, _, _, _ => none
  | k + 1, x0, x1, x5 => if x5 < (x0.length : Int) then (if 0 ≤ x5 then (if x5 < (x1.length : Int) then (if (rd x0 x5) = (rd x1 x5) then (trestleref04_SameInts.l0 k x0 x1 (wrap64 (x5 + 1))) else (some false)) else (none)) else (none)) else (some true)
def trestleref04_SameInts.f (k : Nat) (l0 : List Int) (l1 : List Int) : Option (Bool) := if (l0.length : Int) = (l1.length : Int) then (trestleref04_SameInts.l0 k l0 l1 0) else (some false)
theorem trestleref04_SameInts.mono_l : ∀ k, (∀ y0 y1 y2, LeO (trestleref04_SameInts.l0 k y0 y1 y2) (trestleref04_SameInts.l0 (k + 1) y0 y1 y2))
  | 0 => fun _ _ _ r h => by simp [trestleref04_SameInts.l0] at h
  | k + 1 => by
    have ih0 := trestleref04_SameInts.mono_l k
    · intro y0 y1 y2
      unfold trestleref04_SameInts.l0
      repeat' first
      | (with_reducible exact ih0 _ _ _)
      | (with_reducible exact LeO.refl _)
      | (with_reducible exact LeO.none _)
      | (with_reducible refine LeO.ite ?_ ?_)
      | (with_reducible refine LeO.bind ?_ (fun _ => ?_))
      | exact ih0 _ _ _
      | exact LeO.none _
      | refine LeO.ite ?_ ?_
      | refine LeO.bind ?_ (fun _ => ?_)
theorem trestleref04_SameInts.mono : ∀ a0 a1 k, LeO (trestleref04_SameInts.f k a0 a1) (trestleref04_SameInts.f (k + 1) a0 a1) := by
  intro a0 a1 k
  have ih0 := trestleref04_SameInts.mono_l k
  unfold trestleref04_SameInts.f
  repeat' first
      | (with_reducible exact ih0 _ _ _)
      | (with_reducible exact LeO.refl _)
      | (with_reducible exact LeO.none _)
      | (with_reducible refine LeO.ite ?_ ?_)
      | (with_reducible refine LeO.bind ?_ (fun _ => ?_))
      | exact ih0 _ _ _
      | exact LeO.none _
      | refine LeO.ite ?_ ?_
      | refine LeO.bind ?_ (fun _ => ?_)
set_option maxHeartbeats 8000000 in
set_option maxRecDepth 100000 in
theorem trestleref04_SameInts.calls (k : Nat) (A0 : Option Addr) (c0 : Nat) (l0 : List Int) (A1 : Option Addr) (c1 : Nat) (l1 : List Int) (r : Bool) (w : World) (hr0 : Kd.C (Kd.int .i64) w A0 l0.length l0) (hc0 : l0.length ≤ c0) (hr1 : Kd.C (Kd.int .i64) w A1 l1.length l1) (hc1 : l1.length ≤ c1) (h : trestleref04_SameInts.f k l0 l1 = some r) :
    Calls Tryd.prog 33 #[.slice A0 l0.length c0, .slice A1 l1.length c1] w fun e w' => e = .returned (.bool r) ∧ Drawn0 w w' := by
  have HR0 := Aside0.mk hr0
  have HC0 := Aside0.mk hc0
  clear hr0 hc0
  have HR1 := Aside0.mk hr1
  have HC1 := Aside0.mk hc1
  clear hr1 hc1
  have H : (if (l0.length : Int) = (l1.length : Int) then (trestleref04_SameInts.l0 k l0 l1 0) else (some false)) = some r := h
  clear h
  by_cases c3 : (l0.length : Int) = (l1.length : Int)
  · rw [if_pos c3] at H
    have c3b0 : ((l0.length : Int) == (l1.length : Int)) = true := beq_iff_eq.mpr c3
    have c3b1 : ((l0.length : Int) != (l1.length : Int)) = false := bne_eq_false_iff_eq.mpr c3
    have c3b2 : (l0.length == l1.length) = true := by first | simpa using c3 | (simp at c3 ⊢; omega)
    clear c3
    have H' := Aside0.mk H
    clear H
    go_enter Tryd.func33, Tryd.ntmps33
    go_wp2
    repeat (go_quiet (fail); try go_wp2)
    go_loopg [5] k (fun kq v5 w' => ∃ (x5_1 : Int), v5 = .int .i64 x5_1 ∧ Aside0 (trestleref04_SameInts.l0 kq l0 l1 x5_1 = some r) ∧ Aside0 (kq ≤ k) ∧ Drawn0 w w')
    case atStart => exact ⟨(0), (by first | rfl | (simp; done) | (simp [*]; done)), H', ⟨Nat.le_refl _⟩, by repeat (first | exact Drawn0.refl _ | apply Drawn0.step)⟩
    case round =>
      clear H'
      try clear c1
      try clear p2
      try clear c3
      try clear c3b0
      try clear c3b1
      try clear c3b2
      obtain ⟨x5_1, rfl, HA, HK1, ⟨m1, rfl⟩⟩ := hrel
      cases gk with
      | zero => exact absurd HA.out (by simp [trestleref04_SameInts.l0])
      | succ k1 =>
        have H := HA.out
        clear HA
        simp only [trestleref04_SameInts.l0] at H
        by_cases c4 : x5_1 < (l0.length : Int)
        · rw [if_pos c4] at H
          have c4b0 : decide (x5_1 < (l0.length : Int)) = true := decide_eq_true c4
          clear c4
          by_cases c5 : 0 ≤ x5_1
          · rw [if_pos c5] at H
            have c5b0 : decide (0 ≤ x5_1) = true := decide_eq_true c5
            clear c5
            by_cases c6 : x5_1 < (l1.length : Int)
            · rw [if_pos c6] at H
              have c6b0 : decide (x5_1 < (l1.length : Int)) = true := decide_eq_true c6
              clear c6
              by_cases c7 : (rd l0 x5_1) = (rd l1 x5_1)
              · rw [if_pos c7] at H
                have c7b0 : ((rd l0 x5_1) == (rd l1 x5_1)) = true := beq_iff_eq.mpr c7
                have c7b1 : ((rd l0 x5_1) != (rd l1 x5_1)) = false := bne_eq_false_iff_eq.mpr c7
                clear c7
                have H' := Aside0.mk H
                clear H
                have p248 : 0 ≤ (x5_1 : Int) := of_decide_eq_true (by first | (with_reducible assumption) | assumption)
                have q248 : x5_1 < (l0.length : Int) := of_decide_eq_true (by first | (with_reducible assumption) | assumption)
                obtain ⟨ad248, e248, hx248_0⟩ := Kd.at_int HR0.out x5_1 p248 q248
                cases e248
                replace p248 := eq_true p248
                replace q248 := eq_true q248
                have p249 : 0 ≤ (x5_1 : Int) := of_decide_eq_true (by first | (with_reducible assumption) | assumption)
                have q249 : x5_1 < (l1.length : Int) := of_decide_eq_true (by first | (with_reducible assumption) | assumption)
                obtain ⟨ad249, e249, hx249_0⟩ := Kd.at_int HR1.out x5_1 p249 q249
                cases e249
                replace p249 := eq_true p249
                replace q249 := eq_true q249
                go_wp2
                repeat (go_quiet (fail); try go_wp2)
                go_roundg k1
                case measure => have := HK1.out; omega
                case rel => exact ⟨(wrap64 (x5_1 + 1)), (by first | rfl | (simp; done) | (simp [*]; done)), H', ⟨by have := HK1.out; omega⟩, by repeat (first | exact Drawn0.refl _ | apply Drawn0.step)⟩
              · rw [if_neg c7] at H
                have c7b0 : ((rd l0 x5_1) == (rd l1 x5_1)) = false := beq_eq_false_iff_ne.mpr c7
                have c7b1 : ((rd l0 x5_1) != (rd l1 x5_1)) = true := bne_iff_ne.mpr c7
                obtain rfl := Option.some.inj H
                have p248 : 0 ≤ (x5_1 : Int) := of_decide_eq_true (by first | (with_reducible assumption) | assumption)
                have q248 : x5_1 < (l0.length : Int) := of_decide_eq_true (by first | (with_reducible assumption) | assumption)
                obtain ⟨ad248, e248, hx248_0⟩ := Kd.at_int HR0.out x5_1 p248 q248
                cases e248
                replace p248 := eq_true p248
                replace q248 := eq_true q248
                have p249 : 0 ≤ (x5_1 : Int) := of_decide_eq_true (by first | (with_reducible assumption) | assumption)
                have q249 : x5_1 < (l1.length : Int) := of_decide_eq_true (by first | (with_reducible assumption) | assumption)
                obtain ⟨ad249, e249, hx249_0⟩ := Kd.at_int HR1.out x5_1 p249 q249
                cases e249
                replace p249 := eq_true p249
                replace q249 := eq_true q249
                go_wp2
                repeat (go_quiet (fail); try go_wp2)
                go_ret
                exact ⟨by first | rfl | (simp; done) | (simp [*]; done), by repeat (first | exact Drawn0.refl _ | apply Drawn0.step)⟩
            · rw [if_neg c6] at H
              exact absurd H (by simp)
          · rw [if_neg c5] at H
            exact absurd H (by simp)
        · rw [if_neg c4] at H
          have c4b0 : decide (x5_1 < (l0.length : Int)) = false := decide_eq_false c4
          clear c4
          obtain rfl := Option.some.inj H
          go_wp2
          repeat (go_quiet (fail); try go_wp2)
          go_ret
          exact ⟨by first | rfl | (simp; done) | (simp [*]; done), by repeat (first | exact Drawn0.refl _ | apply Drawn0.step)⟩
  · rw [if_neg c3] at H
    have c3b0 : ((l0.length : Int) == (l1.length : Int)) = false := beq_eq_false_iff_ne.mpr c3
    have c3b1 : ((l0.length : Int) != (l1.length : Int)) = true := bne_iff_ne.mpr c3
    have c3b2 : (l0.length == l1.length) = false := by first | simpa using c3 | (simp at c3 ⊢; omega)
    obtain rfl := Option.some.inj H
    go_enter Tryd.func33, Tryd.ntmps33
    go_wp2
    repeat (go_quiet (fail); try go_wp2)
    go_ret
    exact ⟨by first | rfl | (simp; done) | (simp [*]; done), by repeat (first | exact Drawn0.refl _ | apply Drawn0.step)⟩

-- NOT PRINTED: function 6 (trestlelaw17_UtflibChars)

/-! ### trestleref17_Means: function 62 -/
def trestleref17_Means.f (a0 : Int) (a1 : Int) : Option (Int) := if a0 ≥ 0 then (some a0) else (if a0 ≥ (wrap64 (-a1)) then (some (wrap64 ((wrap64 (a1 + 1)) + a0))) else (some 0))
set_option maxHeartbeats 8000000 in
set_option maxRecDepth 100000 in
theorem trestleref17_Means.calls (a0 : Int) (a1 : Int) (r : Int) (w : World) (h : trestleref17_Means.f a0 a1 = some r) :
    Calls Tryd.prog 62 #[.int .i64 a0, .int .i64 a1] w fun e w' => e = .returned (.int .i64 r) ∧ Drawn0 w w' := by
  have H : (if a0 ≥ 0 then (some a0) else (if a0 ≥ (wrap64 (-a1)) then (some (wrap64 ((wrap64 (a1 + 1)) + a0))) else (some 0))) = some r := h
  clear h
  by_cases c3 : a0 ≥ 0
  · rw [if_pos c3] at H
    have c3b0 : decide (0 ≤ a0) = true := decide_eq_true c3
    clear c3
    obtain rfl := Option.some.inj H
    go_enter Tryd.func62, Tryd.ntmps62
    go_wp2
    go_ret
    exact ⟨by first | rfl | (simp; done) | (simp [*]; done), by repeat (first | exact Drawn0.refl _ | apply Drawn0.step)⟩
  · rw [if_neg c3] at H
    have c3b0 : decide (0 ≤ a0) = false := decide_eq_false c3
    clear c3
    by_cases c4 : a0 ≥ (wrap64 (-a1))
    · rw [if_pos c4] at H
      have c4b0 : decide ((wrap64 (-a1)) ≤ a0) = true := decide_eq_true c4
      clear c4
      obtain rfl := Option.some.inj H
      go_enter Tryd.func62, Tryd.ntmps62
      go_wp2
      go_ret
      exact ⟨by first | rfl | (simp; done) | (simp [*]; done), by repeat (first | exact Drawn0.refl _ | apply Drawn0.step)⟩
    · rw [if_neg c4] at H
      have c4b0 : decide ((wrap64 (-a1)) ≤ a0) = false := decide_eq_false c4
      clear c4
      obtain rfl := Option.some.inj H
      go_enter Tryd.func62, Tryd.ntmps62
      go_wp2
      go_ret
      exact ⟨by first | rfl | (simp; done) | (simp [*]; done), by repeat (first | exact Drawn0.refl _ | apply Drawn0.step)⟩

end Go.Proofs.YtlmmhlabacghnaaDoor.PR
-- Written by a program of this session's (the kit's print, turned), out of the translation.
namespace Go.Proofs.YtlmmhlabacghnaaDoor.PR
open Go.RowKit Go.Proofs.YtlmmhlabacghnaaDoorW.PrintWords Go.Proofs.YtlmmhlabacghnaaDoorW.PrintLast Go.Proofs.YtlmmhlabacghnaaDoorW.PrintMore
attribute [local go_sem] max2_int min2_int max_two min_two max_three min_three max_four min_four   -- for this text's walks alone
set_option linter.unusedVariables false
set_option linter.unusedSimpArgs false

/-! ### trestleref17_inner: function 63 -/
def trestleref17_inner.f (a0 : ByteArray) (a1 : Int) : Option (Bool) := if a1 ≤ (a0.size : Int) then (if 0 ≤ (wrap64 (a1 - 1)) then (if (wrap64 (a1 - 1)) < (a0.size : Int) then (if (bt a0 (wrap64 (a1 - 1))) ≥ 128 then (some (decide ((bt a0 (wrap64 (a1 - 1))) ≤ 191))) else (some false)) else (none)) else (none)) else (some false)
set_option maxHeartbeats 8000000 in
set_option maxRecDepth 100000 in
theorem trestleref17_inner.calls (a0 : ByteArray) (a1 : Int) (r : Bool) (w : World) (h : trestleref17_inner.f a0 a1 = some r) :
    Calls Tryd.prog 63 #[.string a0, .int .i64 a1] w fun e w' => e = .returned (.bool r) ∧ Drawn0 w w' := by
  have H : (if a1 ≤ (a0.size : Int) then (if 0 ≤ (wrap64 (a1 - 1)) then (if (wrap64 (a1 - 1)) < (a0.size : Int) then (if (bt a0 (wrap64 (a1 - 1))) ≥ 128 then (some (decide ((bt a0 (wrap64 (a1 - 1))) ≤ 191))) else (some false)) else (none)) else (none)) else (some false)) = some r := h
  clear h
  by_cases c3 : a1 ≤ (a0.size : Int)
  · rw [if_pos c3] at H
    have c3b0 : decide (a1 ≤ (a0.size : Int)) = true := decide_eq_true c3
    clear c3
    obtain ⟨ji4, hji4⟩ : ∃ j_ : Int, (wrap64 (a1 - 1)) = j_ := ⟨_, rfl⟩
    replace H : (if 0 ≤ (ji4) then (if (ji4) < (a0.size : Int) then (if (bt a0 (ji4)) ≥ 128 then (some (decide ((bt a0 (ji4)) ≤ 191))) else (some false)) else (none)) else (none)) = some r := by first | (rw [hji4] at H; exact H) | (simp only [hji4] at H ⊢; exact H)
    have hji4w : (IntKind.i64.wrap (a1 - 1)) = ji4 := (i64_w _).trans hji4
    by_cases c5 : 0 ≤ (ji4)
    · rw [if_pos c5] at H
      have c5b0 : decide (0 ≤ (ji4)) = true := decide_eq_true c5
      clear c5
      by_cases c6 : (ji4) < (a0.size : Int)
      · rw [if_pos c6] at H
        have c6b0 : decide ((ji4) < (a0.size : Int)) = true := decide_eq_true c6
        clear c6
        by_cases c8 : (bt a0 (ji4)) ≥ 128
        · rw [if_pos c8] at H
          have c8b0 : decide (128 ≤ (bt a0 (ji4))) = true := decide_eq_true c8
          clear c8
          obtain rfl := Option.some.inj H
          have p7 : 0 ≤ ((ji4) : Int) := of_decide_eq_true (by first | (with_reducible assumption) | assumption)
          have q7 : (ji4) < (a0.size : Int) := of_decide_eq_true (by first | (with_reducible assumption) | assumption)
          have hx7 := bt_at a0 (ji4)
          replace p7 := eq_true p7
          replace q7 := eq_true q7
          have p9 : 0 ≤ ((ji4) : Int) := of_decide_eq_true (by first | (with_reducible assumption) | assumption)
          have q9 : (ji4) < (a0.size : Int) := of_decide_eq_true (by first | (with_reducible assumption) | assumption)
          have hx9 := bt_at a0 (ji4)
          replace p9 := eq_true p9
          replace q9 := eq_true q9
          go_enter Tryd.func63, Tryd.ntmps63
          go_wp2
          go_ret
          exact ⟨by first | rfl | (simp; done) | (simp only [← hji4] <;> (first | rfl | simp)) | (simp [*]; done), by repeat (first | exact Drawn0.refl _ | apply Drawn0.step)⟩
        · rw [if_neg c8] at H
          have c8b0 : decide (128 ≤ (bt a0 (ji4))) = false := decide_eq_false c8
          clear c8
          obtain rfl := Option.some.inj H
          have p7 : 0 ≤ ((ji4) : Int) := of_decide_eq_true (by first | (with_reducible assumption) | assumption)
          have q7 : (ji4) < (a0.size : Int) := of_decide_eq_true (by first | (with_reducible assumption) | assumption)
          have hx7 := bt_at a0 (ji4)
          replace p7 := eq_true p7
          replace q7 := eq_true q7
          go_enter Tryd.func63, Tryd.ntmps63
          go_wp2
          go_ret
          exact ⟨by first | rfl | (simp; done) | (simp only [← hji4] <;> (first | rfl | simp)) | (simp [*]; done), by repeat (first | exact Drawn0.refl _ | apply Drawn0.step)⟩
      · rw [if_neg c6] at H
        exact absurd H (by simp)
    · rw [if_neg c5] at H
      exact absurd H (by simp)
  · rw [if_neg c3] at H
    have c3b0 : decide (a1 ≤ (a0.size : Int)) = false := decide_eq_false c3
    clear c3
    obtain rfl := Option.some.inj H
    go_enter Tryd.func63, Tryd.ntmps63
    go_wp2
    go_ret
    exact ⟨by first | rfl | (simp; done) | (simp [*]; done), by repeat (first | exact Drawn0.refl _ | apply Drawn0.step)⟩

end Go.Proofs.YtlmmhlabacghnaaDoor.PR
-- Written by a program of this session's (the kit's print, turned), out of the translation.
namespace Go.Proofs.YtlmmhlabacghnaaDoor.PR
open Go.RowKit Go.Proofs.YtlmmhlabacghnaaDoorW.PrintWords Go.Proofs.YtlmmhlabacghnaaDoorW.PrintLast Go.Proofs.YtlmmhlabacghnaaDoorW.PrintMore
attribute [local go_sem] max2_int min2_int max_two min_two max_three min_three max_four min_four   -- for this text's walks alone
set_option linter.unusedVariables false
set_option linter.unusedSimpArgs false

/-! ### trestleref17_Offset: function 35 -/
mutual
def trestleref17_Offset.j0 : Nat → ByteArray → Int → Int → Bool → Option (Int × Bool × Int)
  | 0, _, _, _, _ => none
  | k + 1, x0, x1, x9, x22 => if x22 = true then (some (0, false, 1)) else (if x1 = 0 then (trestleref17_Offset.l0 k x0 x9) else ((trestleref17_inner.f x0 x9).bind fun t252 => (if t252 = true then (some (0, false, 1)) else (if x1 < 0 then (trestleref17_Offset.l1 k x0 x1 x9) else (trestleref17_Offset.l3 k x0 (wrap64 (x1 - 1)) x9)))))
def trestleref17_Offset.l0 : Nat → ByteArray → Int → Option (Int × Bool × Int)
  | 0, _, _ => none
  | k + 1, x0, x9 => if x9 > 1 then ((trestleref17_inner.f x0 x9).bind fun t251 => (if t251 = true then (trestleref17_Offset.l0 k x0 (wrap64 (x9 - 1))) else (some (x9, true, 0)))) else (some (x9, true, 0))
def trestleref17_Offset.l1 : Nat → ByteArray → Int → Int → Option (Int × Bool × Int)
  | 0, _, _, _ => none
  | k + 1, x0, x1, x9 => if x1 < 0 then (trestleref17_Offset.j3 k x0 x1 x9 (decide (x9 > 1))) else (trestleref17_Offset.j3 k x0 x1 x9 false)
def trestleref17_Offset.j3 : Nat → ByteArray → Int → Int → Bool → Option (Int × Bool × Int)
  | 0, _, _, _, _ => none
  | k + 1, x0, x1, x9, x45 => if x45 = true then (trestleref17_Offset.l2 k x0 x1 (wrap64 (x9 - 1))) else (if x1 = 0 then (some (x9, true, 0)) else (some (0, false, 0)))
def trestleref17_Offset.l2 : Nat → ByteArray → Int → Int → Option (Int × Bool × Int)
  | 0, _, _, _ => none
  | k + 1, x0, x1, x9 => if x9 > 1 then ((trestleref17_inner.f x0 x9).bind fun t253 => (if t253 = true then (trestleref17_Offset.l2 k x0 x1 (wrap64 (x9 - 1))) else (trestleref17_Offset.l1 k x0 (wrap64 (x1 + 1)) x9))) else (trestleref17_Offset.l1 k x0 (wrap64 (x1 + 1)) x9)
def trestleref17_Offset.l3 : Nat → ByteArray → Int → Int → Option (Int × Bool × Int)
  | 0, _, _, _ => none
  | k + 1, x0, x1, x9 => if x1 > 0 then (trestleref17_Offset.j6 k x0 x1 x9 (decide (x9 ≤ (x0.size : Int)))) else (trestleref17_Offset.j6 k x0 x1 x9 false)
def trestleref17_Offset.j6 : Nat → ByteArray → Int → Int → Bool → Option (Int × Bool × Int)
  | 0, _, _, _, _ => none
  | k + 1, x0, x1, x9, x68 => if x68 = true then (trestleref17_Offset.l4 k x0 x1 (wrap64 (x9 + 1))) else (if x1 = 0 then (some (x9, true, 0)) else (some (0, false, 0)))
def trestleref17_Offset.l4 : Nat → ByteArray → Int → Int → Option (Int × Bool × Int)
  | 0, _, _, _ => none
  | k + 1, x0, x1, x9 => (trestleref17_inner.f x0 x9).bind fun t254 => (if t254 = true then (trestleref17_Offset.l4 k x0 x1 (wrap64 (x9 + 1))) else (trestleref17_Offset.l3 k x0 (wrap64 (x1 - 1)) x9))
end
def trestleref17_Offset.f (k : Nat) (a0 : ByteArray) (a1 : Int) (a2 : Int) : Option (Int × Bool × Int) := (trestleref17_Means.f a2 (a0.size : Int)).bind fun t250 => (if t250 < 1 then (trestleref17_Offset.j0 k a0 a1 t250 true) else (trestleref17_Offset.j0 k a0 a1 t250 (decide (t250 > (wrap64 ((a0.size : Int) + 1))))))
theorem trestleref17_Offset.mono_l : ∀ k, (∀ y0 y1 y2 y3, LeO (trestleref17_Offset.j0 k y0 y1 y2 y3) (trestleref17_Offset.j0 (k + 1) y0 y1 y2 y3)) ∧ (∀ y0 y1, LeO (trestleref17_Offset.l0 k y0 y1) (trestleref17_Offset.l0 (k + 1) y0 y1)) ∧ (∀ y0 y1 y2, LeO (trestleref17_Offset.l1 k y0 y1 y2) (trestleref17_Offset.l1 (k + 1) y0 y1 y2)) ∧ (∀ y0 y1 y2 y3, LeO (trestleref17_Offset.j3 k y0 y1 y2 y3) (trestleref17_Offset.j3 (k + 1) y0 y1 y2 y3)) ∧ (∀ y0 y1 y2, LeO (trestleref17_Offset.l2 k y0 y1 y2) (trestleref17_Offset.l2 (k + 1) y0 y1 y2)) ∧ (∀ y0 y1 y2, LeO (trestleref17_Offset.l3 k y0 y1 y2) (trestleref17_Offset.l3 (k + 1) y0 y1 y2)) ∧ (∀ y0 y1 y2 y3, LeO (trestleref17_Offset.j6 k y0 y1 y2 y3) (trestleref17_Offset.j6 (k + 1) y0 y1 y2 y3)) ∧ (∀ y0 y1 y2, LeO (trestleref17_Offset.l4 k y0 y1 y2) (trestleref17_Offset.l4 (k + 1) y0 y1 y2))
  | 0 => ⟨fun _ _ _ _ r h => by simp [trestleref17_Offset.j0] at h, fun _ _ r h => by simp [trestleref17_Offset.l0] at h, fun _ _ _ r h => by simp [trestleref17_Offset.l1] at h, fun _ _ _ _ r h => by simp [trestleref17_Offset.j3] at h, fun _ _ _ r h => by simp [trestleref17_Offset.l2] at h, fun _ _ _ r h => by simp [trestleref17_Offset.l3] at h, fun _ _ _ _ r h => by simp [trestleref17_Offset.j6] at h, fun _ _ _ r h => by simp [trestleref17_Offset.l4] at h⟩
  | k + 1 => by
    obtain ⟨ih0, ih1, ih2, ih3, ih4, ih5, ih6, ih7⟩ := trestleref17_Offset.mono_l k
    refine ⟨?_, ?_, ?_, ?_, ?_, ?_, ?_, ?_⟩
    · intro y0 y1 y2 y3
      unfold trestleref17_Offset.j0
      repeat' first
      | (with_reducible exact ih0 _ _ _ _)
      | (with_reducible exact ih1 _ _)
      | (with_reducible exact ih2 _ _ _)
      | (with_reducible exact ih3 _ _ _ _)
      | (with_reducible exact ih4 _ _ _)
      | (with_reducible exact ih5 _ _ _)
      | (with_reducible exact ih6 _ _ _ _)
      | (with_reducible exact ih7 _ _ _)
      | (with_reducible exact LeO.refl _)
      | (with_reducible exact LeO.none _)
      | (with_reducible refine LeO.ite ?_ ?_)
      | (with_reducible refine LeO.bind ?_ (fun _ => ?_))
      | exact ih0 _ _ _ _
      | exact ih1 _ _
      | exact ih2 _ _ _
      | exact ih3 _ _ _ _
      | exact ih4 _ _ _
      | exact ih5 _ _ _
      | exact ih6 _ _ _ _
      | exact ih7 _ _ _
      | exact LeO.none _
      | refine LeO.ite ?_ ?_
      | refine LeO.bind ?_ (fun _ => ?_)
    · intro y0 y1
      unfold trestleref17_Offset.l0
      repeat' first
      | (with_reducible exact ih0 _ _ _ _)
      | (with_reducible exact ih1 _ _)
      | (with_reducible exact ih2 _ _ _)
      | (with_reducible exact ih3 _ _ _ _)
      | (with_reducible exact ih4 _ _ _)
      | (with_reducible exact ih5 _ _ _)
      | (with_reducible exact ih6 _ _ _ _)
      | (with_reducible exact ih7 _ _ _)
      | (with_reducible exact LeO.refl _)
      | (with_reducible exact LeO.none _)
      | (with_reducible refine LeO.ite ?_ ?_)
      | (with_reducible refine LeO.bind ?_ (fun _ => ?_))
      | exact ih0 _ _ _ _
      | exact ih1 _ _
      | exact ih2 _ _ _
      | exact ih3 _ _ _ _
      | exact ih4 _ _ _
      | exact ih5 _ _ _
      | exact ih6 _ _ _ _
      | exact ih7 _ _ _
      | exact LeO.none _
      | refine LeO.ite ?_ ?_
      | refine LeO.bind ?_ (fun _ => ?_)
    · intro y0 y1 y2
      unfold trestleref17_Offset.l1
      repeat' first
      | (with_reducible exact ih0 _ _ _ _)
      | (with_reducible exact ih1 _ _)
      | (with_reducible exact ih2 _ _ _)
      | (with_reducible exact ih3 _ _ _ _)
      | (with_reducible exact ih4 _ _ _)
      | (with_reducible exact ih5 _ _ _)
      | (with_reducible exact ih6 _ _ _ _)
      | (with_reducible exact ih7 _ _ _)
      | (with_reducible exact LeO.refl _)
      | (with_reducible exact LeO.none _)
      | (with_reducible refine LeO.ite ?_ ?_)
      | (with_reducible refine LeO.bind ?_ (fun _ => ?_))
      | exact ih0 _ _ _ _
      | exact ih1 _ _
      | exact ih2 _ _ _
      | exact ih3 _ _ _ _
      | exact ih4 _ _ _
      | exact ih5 _ _ _
      | exact ih6 _ _ _ _
      | exact ih7 _ _ _
      | exact LeO.none _
      | refine LeO.ite ?_ ?_
      | refine LeO.bind ?_ (fun _ => ?_)
    · intro y0 y1 y2 y3
      unfold trestleref17_Offset.j3
      repeat' first
      | (with_reducible exact ih0 _ _ _ _)
      | (with_reducible exact ih1 _ _)
      | (with_reducible exact ih2 _ _ _)
      | (with_reducible exact ih3 _ _ _ _)
      | (with_reducible exact ih4 _ _ _)
      | (with_reducible exact ih5 _ _ _)
      | (with_reducible exact ih6 _ _ _ _)
      | (with_reducible exact ih7 _ _ _)
      | (with_reducible exact LeO.refl _)
      | (with_reducible exact LeO.none _)
      | (with_reducible refine LeO.ite ?_ ?_)
      | (with_reducible refine LeO.bind ?_ (fun _ => ?_))
      | exact ih0 _ _ _ _
      | exact ih1 _ _
      | exact ih2 _ _ _
      | exact ih3 _ _ _ _
      | exact ih4 _ _ _
      | exact ih5 _ _ _
      | exact ih6 _ _ _ _
      | exact ih7 _ _ _
      | exact LeO.none _
      | refine LeO.ite ?_ ?_
      | refine LeO.bind ?_ (fun _ => ?_)
    · intro y0 y1 y2
      unfold trestleref17_Offset.l2
      repeat' first
      | (with_reducible exact ih0 _ _ _ _)
      | (with_reducible exact ih1 _ _)
      | (with_reducible exact ih2 _ _ _)
      | (with_reducible exact ih3 _ _ _ _)
      | (with_reducible exact ih4 _ _ _)
      | (with_reducible exact ih5 _ _ _)
      | (with_reducible exact ih6 _ _ _ _)
      | (with_reducible exact ih7 _ _ _)
      | (with_reducible exact LeO.refl _)
      | (with_reducible exact LeO.none _)
      | (with_reducible refine LeO.ite ?_ ?_)
      | (with_reducible refine LeO.bind ?_ (fun _ => ?_))
      | exact ih0 _ _ _ _
      | exact ih1 _ _
      | exact ih2 _ _ _
      | exact ih3 _ _ _ _
      | exact ih4 _ _ _
      | exact ih5 _ _ _
      | exact ih6 _ _ _ _
      | exact ih7 _ _ _
      | exact LeO.none _
      | refine LeO.ite ?_ ?_
      | refine LeO.bind ?_ (fun _ => ?_)
    · intro y0 y1 y2
      unfold trestleref17_Offset.l3
      repeat' first
      | (with_reducible exact ih0 _ _ _ _)
      | (with_reducible exact ih1 _ _)
      | (with_reducible exact ih2 _ _ _)
      | (with_reducible exact ih3 _ _ _ _)
      | (with_reducible exact ih4 _ _ _)
      | (with_reducible exact ih5 _ _ _)
      | (with_reducible exact ih6 _ _ _ _)
      | (with_reducible exact ih7 _ _ _)
      | (with_reducible exact LeO.refl _)
      | (with_reducible exact LeO.none _)
      | (with_reducible refine LeO.ite ?_ ?_)
      | (with_reducible refine LeO.bind ?_ (fun _ => ?_))
      | exact ih0 _ _ _ _
      | exact ih1 _ _
      | exact ih2 _ _ _
      | exact ih3 _ _ _ _
      | exact ih4 _ _ _
      | exact ih5 _ _ _
      | exact ih6 _ _ _ _
      | exact ih7 _ _ _
      | exact LeO.none _
      | refine LeO.ite ?_ ?_
      | refine LeO.bind ?_ (fun _ => ?_)
    · intro y0 y1 y2 y3
      unfold trestleref17_Offset.j6
      repeat' first
      | (with_reducible exact ih0 _ _ _ _)
      | (with_reducible exact ih1 _ _)
      | (with_reducible exact ih2 _ _ _)
      | (with_reducible exact ih3 _ _ _ _)
      | (with_reducible exact ih4 _ _ _)
      | (with_reducible exact ih5 _ _ _)
      | (with_reducible exact ih6 _ _ _ _)
      | (with_reducible exact ih7 _ _ _)
      | (with_reducible exact LeO.refl _)
      | (with_reducible exact LeO.none _)
      | (with_reducible refine LeO.ite ?_ ?_)
      | (with_reducible refine LeO.bind ?_ (fun _ => ?_))
      | exact ih0 _ _ _ _
      | exact ih1 _ _
      | exact ih2 _ _ _
      | exact ih3 _ _ _ _
      | exact ih4 _ _ _
      | exact ih5 _ _ _
      | exact ih6 _ _ _ _
      | exact ih7 _ _ _
      | exact LeO.none _
      | refine LeO.ite ?_ ?_
      | refine LeO.bind ?_ (fun _ => ?_)
    · intro y0 y1 y2
      unfold trestleref17_Offset.l4
      repeat' first
      | (with_reducible exact ih0 _ _ _ _)
      | (with_reducible exact ih1 _ _)
      | (with_reducible exact ih2 _ _ _)
      | (with_reducible exact ih3 _ _ _ _)
      | (with_reducible exact ih4 _ _ _)
      | (with_reducible exact ih5 _ _ _)
      | (with_reducible exact ih6 _ _ _ _)
      | (with_reducible exact ih7 _ _ _)
      | (with_reducible exact LeO.refl _)
      | (with_reducible exact LeO.none _)
      | (with_reducible refine LeO.ite ?_ ?_)
      | (with_reducible refine LeO.bind ?_ (fun _ => ?_))
      | exact ih0 _ _ _ _
      | exact ih1 _ _
      | exact ih2 _ _ _
      | exact ih3 _ _ _ _
      | exact ih4 _ _ _
      | exact ih5 _ _ _
      | exact ih6 _ _ _ _
      | exact ih7 _ _ _
      | exact LeO.none _
      | refine LeO.ite ?_ ?_
      | refine LeO.bind ?_ (fun _ => ?_)
theorem trestleref17_Offset.mono : ∀ a0 a1 a2 k, LeO (trestleref17_Offset.f k a0 a1 a2) (trestleref17_Offset.f (k + 1) a0 a1 a2) := by
  intro a0 a1 a2 k
  obtain ⟨ih0, ih1, ih2, ih3, ih4, ih5, ih6, ih7⟩ := trestleref17_Offset.mono_l k
  unfold trestleref17_Offset.f
  repeat' first
      | (with_reducible exact ih0 _ _ _ _)
      | (with_reducible exact ih1 _ _)
      | (with_reducible exact ih2 _ _ _)
      | (with_reducible exact ih3 _ _ _ _)
      | (with_reducible exact ih4 _ _ _)
      | (with_reducible exact ih5 _ _ _)
      | (with_reducible exact ih6 _ _ _ _)
      | (with_reducible exact ih7 _ _ _)
      | (with_reducible exact LeO.refl _)
      | (with_reducible exact LeO.none _)
      | (with_reducible refine LeO.ite ?_ ?_)
      | (with_reducible refine LeO.bind ?_ (fun _ => ?_))
      | exact ih0 _ _ _ _
      | exact ih1 _ _
      | exact ih2 _ _ _
      | exact ih3 _ _ _ _
      | exact ih4 _ _ _
      | exact ih5 _ _ _
      | exact ih6 _ _ _ _
      | exact ih7 _ _ _
      | exact LeO.none _
      | refine LeO.ite ?_ ?_
      | refine LeO.bind ?_ (fun _ => ?_)
set_option maxHeartbeats 8000000 in
set_option maxRecDepth 100000 in
theorem trestleref17_Offset.calls (k : Nat) (a0 : ByteArray) (a1 : Int) (a2 : Int) (r1 : Int) (r2 : Bool) (r3 : Int) (w : World) (h : trestleref17_Offset.f k a0 a1 a2 = some (r1, r2, r3)) :
    Calls Tryd.prog 35 #[.string a0, .int .i64 a1, .int .i64 a2] w fun e w' => e = .returned (.tuple #[.int .i64 r1, .bool r2, .int .i64 r3]) ∧ Drawn0 w w' := by
  have H : ((trestleref17_Means.f a2 (a0.size : Int)).bind fun t250 => (if t250 < 1 then (trestleref17_Offset.j0 k a0 a1 t250 true) else (trestleref17_Offset.j0 k a0 a1 t250 (decide (t250 > (wrap64 ((a0.size : Int) + 1))))))) = some (r1, r2, r3) := h
  clear h
  replace H := Option.bind_eq_some_iff.mp H
  obtain ⟨t250, A40, H⟩ := H
  replace H : (if t250 < 1 then (trestleref17_Offset.j0 k a0 a1 t250 true) else (trestleref17_Offset.j0 k a0 a1 t250 (decide (t250 > (wrap64 ((a0.size : Int) + 1)))))) = some (r1, r2, r3) := H
  have A4 := Aside0.mk A40
  clear A40
  have HC5 := Aside0.mk H
  clear H
  go_enter Tryd.func35, Tryd.ntmps35
  go_upto_region 2 with (first | ((with_reducible refine gate_callee (f := 62) rfl ?_); refine goesL_ (some 13) rfl rfl Tryd.func62 (by kernel_rfl) rfl #[.int .i64 a2, .int .i64 (a0.size : Int)] rfl (by (try simp only [List.map_toArray, List.map_cons, List.map_nil]); first | done | rfl | (simp only [List.length_drop, List.length_take]; rfl)) ?_; (with_reducible refine (trestleref17_Means.calls a2 (a0.size : Int) t250 _ A4.out).mono ?_); rintro e w' ⟨rfl, ⟨nd, rfl⟩⟩; refine ⟨_, rfl, ?_⟩))
  (try simp only [Act.put, List.setIfInBounds_toArray, List.set_cons_zero, List.set_cons_succ])
  go_cut [22] (fun v22 wc => ∃ (kq : Nat) (x22_4 : Bool), v22 = .bool x22_4 ∧ Aside0 (trestleref17_Offset.j0 kq a0 a1 t250 x22_4 = some (r1, r2, r3)) ∧ Aside0 (kq ≤ k) ∧ Drawn0 w wc)
  case first =>
    have H := HC5.out
    clear HC5
    by_cases c6 : t250 < 1
    · rw [if_pos c6] at H
      have c6b0 : decide (t250 < 1) = true := decide_eq_true c6
      clear c6
      (first | rw [c6b0] | (simp only [i64_w, i32_w]; rw [c6b0]) | skip)
      have H' := Aside0.mk H
      clear H
      go_wp2
      go_meet
      case rel => exact ⟨_, (true), (by first | rfl | (simp; done) | (simp [*]; done)), H', ⟨by first | omega | exact Nat.le_refl _⟩, by repeat (first | exact Drawn0.refl _ | apply Drawn0.step)⟩
    · rw [if_neg c6] at H
      have c6b0 : decide (t250 < 1) = false := decide_eq_false c6
      clear c6
      (first | rw [c6b0] | (simp only [i64_w, i32_w]; rw [c6b0]) | skip)
      have H' := Aside0.mk H
      clear H
      go_wp2
      go_meet
      case rel => exact ⟨_, (decide (t250 > (wrap64 ((a0.size : Int) + 1)))), (by first | rfl | (simp; done) | (simp [*]; done)), H', ⟨by first | omega | exact Nat.le_refl _⟩, by repeat (first | exact Drawn0.refl _ | apply Drawn0.step)⟩
  case rest =>
    clear HC5
    try clear p2
    try clear c3
    try clear c6
    try clear c6b0
    try clear p6
    obtain ⟨kq, x22_4, rfl, HA, HJ4, ⟨mc4, rfl⟩⟩ := hcut
    cases kq with
    | zero => exact absurd HA.out (by simp [trestleref17_Offset.j0])
    | succ kj4 =>
      have H := HA.out
      clear HA
      simp only [trestleref17_Offset.j0] at H
      by_cases c7 : x22_4 = true
      · subst c7
        have H1 : (some (0, false, 1)) = some (r1, r2, r3) := by rw [if_pos rfl] at H; exact H
        clear H
        have H := H1
        clear H1
        simp only [Option.some.injEq, Prod.mk.injEq] at H
        obtain ⟨rfl, rfl, rfl⟩ := H
        go_wp2
        go_ret3
        exact ⟨by first | rfl | (simp; done) | (simp [*]; done), by repeat (first | exact Drawn0.refl _ | apply Drawn0.step)⟩
      · replace c7 := Bool.eq_false_iff.mpr c7
        subst c7
        have H1 : (if a1 = 0 then (trestleref17_Offset.l0 kj4 a0 t250) else ((trestleref17_inner.f a0 t250).bind fun t252 => (if t252 = true then (some (0, false, 1)) else (if a1 < 0 then (trestleref17_Offset.l1 kj4 a0 a1 t250) else (trestleref17_Offset.l3 kj4 a0 (wrap64 (a1 - 1)) t250))))) = some (r1, r2, r3) := by rw [if_neg (show ¬ (false = true) by decide)] at H; exact H
        clear H
        have H := H1
        clear H1
        by_cases c8 : a1 = 0
        · rw [if_pos c8] at H
          have c8b0 : (a1 == 0) = true := beq_iff_eq.mpr c8
          have c8b1 : (a1 != 0) = false := bne_eq_false_iff_eq.mpr c8
          clear c8
          have H' := Aside0.mk H
          clear H
          go_wp2
          go_loopg [9] kj4 (fun kq v9 w' => ∃ (x9_2 : Int), v9 = .int .i64 x9_2 ∧ Aside0 (trestleref17_Offset.l0 kq a0 x9_2 = some (r1, r2, r3)) ∧ Aside0 (kq ≤ kj4) ∧ Drawn0 w w')
          case atStart => exact ⟨(t250), (by first | rfl | (simp; done) | (simp [*]; done)), H', ⟨Nat.le_refl _⟩, by repeat (first | exact Drawn0.refl _ | apply Drawn0.step)⟩
          case round =>
            clear H'
            try clear p2
            try clear c3
            try clear c4
            try clear c6
            try clear c6b0
            try clear p6
            try clear c7
            try clear c8
            try clear c8b0
            try clear c8b1
            try clear p2
            try clear p6
            obtain ⟨x9_2, rfl, HA, HK2, ⟨m2, rfl⟩⟩ := hrel
            cases gk with
            | zero => exact absurd HA.out (by simp [trestleref17_Offset.l0])
            | succ k2 =>
              have H := HA.out
              clear HA
              simp only [trestleref17_Offset.l0] at H
              by_cases c9 : x9_2 > 1
              · rw [if_pos c9] at H
                have c9b0 : decide (1 < x9_2) = true := decide_eq_true c9
                clear c9
                replace H := Option.bind_eq_some_iff.mp H
                obtain ⟨t251, A100, H⟩ := H
                replace H : (if t251 = true then (trestleref17_Offset.l0 k2 a0 (wrap64 (x9_2 - 1))) else (some (x9_2, true, 0))) = some (r1, r2, r3) := H
                have A10 := Aside0.mk A100
                clear A100
                by_cases c11 : t251 = true
                · subst c11
                  have H1 : (trestleref17_Offset.l0 k2 a0 (wrap64 (x9_2 - 1))) = some (r1, r2, r3) := by rw [if_pos rfl] at H; exact H
                  clear H
                  have H := H1
                  clear H1
                  have H' := Aside0.mk H
                  clear H
                  go_wp2_with (first | (go_at_call 63; (with_reducible refine (trestleref17_inner.calls a0 x9_2 true _ A10.out).mono ?_); rintro e w' ⟨rfl, ⟨nd, rfl⟩⟩))
                  go_roundg k2
                  case measure => have := HJ4.out; have := HK2.out; omega
                  case rel => exact ⟨(wrap64 (x9_2 - 1)), (by first | rfl | (simp; done) | (simp [*]; done)), H', ⟨by have := HJ4.out; have := HK2.out; omega⟩, by repeat (first | exact Drawn0.refl _ | apply Drawn0.step)⟩
                · replace c11 := Bool.eq_false_iff.mpr c11
                  subst c11
                  have H1 : (some (x9_2, true, 0)) = some (r1, r2, r3) := by rw [if_neg (show ¬ (false = true) by decide)] at H; exact H
                  clear H
                  have H := H1
                  clear H1
                  simp only [Option.some.injEq, Prod.mk.injEq] at H
                  obtain ⟨rfl, rfl, rfl⟩ := H
                  go_wp2_with (first | (go_at_call 63; (with_reducible refine (trestleref17_inner.calls a0 x9_2 false _ A10.out).mono ?_); rintro e w' ⟨rfl, ⟨nd, rfl⟩⟩))
                  go_ret3
                  exact ⟨by first | rfl | (simp; done) | (simp [*]; done), by repeat (first | exact Drawn0.refl _ | apply Drawn0.step)⟩
              · rw [if_neg c9] at H
                have c9b0 : decide (1 < x9_2) = false := decide_eq_false c9
                clear c9
                simp only [Option.some.injEq, Prod.mk.injEq] at H
                obtain ⟨rfl, rfl, rfl⟩ := H
                go_wp2
                go_ret3
                exact ⟨by first | rfl | (simp; done) | (simp [*]; done), by repeat (first | exact Drawn0.refl _ | apply Drawn0.step)⟩
        · rw [if_neg c8] at H
          have c8b0 : (a1 == 0) = false := beq_eq_false_iff_ne.mpr c8
          have c8b1 : (a1 != 0) = true := bne_iff_ne.mpr c8
          replace H := Option.bind_eq_some_iff.mp H
          obtain ⟨t252, A120, H⟩ := H
          replace H : (if t252 = true then (some (0, false, 1)) else (if a1 < 0 then (trestleref17_Offset.l1 kj4 a0 a1 t250) else (trestleref17_Offset.l3 kj4 a0 (wrap64 (a1 - 1)) t250))) = some (r1, r2, r3) := H
          have A12 := Aside0.mk A120
          clear A120
          by_cases c13 : t252 = true
          · subst c13
            have H1 : (some (0, false, 1)) = some (r1, r2, r3) := by rw [if_pos rfl] at H; exact H
            clear H
            have H := H1
            clear H1
            simp only [Option.some.injEq, Prod.mk.injEq] at H
            obtain ⟨rfl, rfl, rfl⟩ := H
            go_wp2_with (first | ((with_reducible refine gate_callee (f := 63) rfl ?_); refine goesL_ (some 37) rfl rfl Tryd.func63 (by kernel_rfl) rfl #[.string a0, .int .i64 t250] rfl (by (try simp only [List.map_toArray, List.map_cons, List.map_nil]); first | done | rfl | (simp only [List.length_drop, List.length_take]; rfl)) ?_; (with_reducible refine (trestleref17_inner.calls a0 t250 true _ A12.out).mono ?_); rintro e w' ⟨rfl, ⟨nd, rfl⟩⟩; refine ⟨_, rfl, ?_⟩))
            go_ret3
            exact ⟨by first | rfl | (simp; done) | (simp [*]; done), by repeat (first | exact Drawn0.refl _ | apply Drawn0.step)⟩
          · replace c13 := Bool.eq_false_iff.mpr c13
            subst c13
            have H1 : (if a1 < 0 then (trestleref17_Offset.l1 kj4 a0 a1 t250) else (trestleref17_Offset.l3 kj4 a0 (wrap64 (a1 - 1)) t250)) = some (r1, r2, r3) := by rw [if_neg (show ¬ (false = true) by decide)] at H; exact H
            clear H
            have H := H1
            clear H1
            by_cases c14 : a1 < 0
            · rw [if_pos c14] at H
              have c14b0 : decide (a1 < 0) = true := decide_eq_true c14
              clear c14
              have H' := Aside0.mk H
              clear H
              go_wp2_with (first | ((with_reducible refine gate_callee (f := 63) rfl ?_); refine goesL_ (some 37) rfl rfl Tryd.func63 (by kernel_rfl) rfl #[.string a0, .int .i64 t250] rfl (by (try simp only [List.map_toArray, List.map_cons, List.map_nil]); first | done | rfl | (simp only [List.length_drop, List.length_take]; rfl)) ?_; (with_reducible refine (trestleref17_inner.calls a0 t250 false _ A12.out).mono ?_); rintro e w' ⟨rfl, ⟨nd, rfl⟩⟩; refine ⟨_, rfl, ?_⟩))
              go_loopg [1, 9] kj4 (fun kq v1 v9 w' => ∃ (x1_2 : Int) (x9_2 : Int), v1 = .int .i64 x1_2 ∧ v9 = .int .i64 x9_2 ∧ Aside0 (trestleref17_Offset.l1 kq a0 x1_2 x9_2 = some (r1, r2, r3)) ∧ Aside0 (kq ≤ kj4) ∧ Drawn0 w w')
              case atStart => exact ⟨(a1), (t250), (by first | rfl | (simp; done) | (simp [*]; done)), (by first | rfl | (simp; done) | (simp [*]; done)), H', ⟨Nat.le_refl _⟩, by repeat (first | exact Drawn0.refl _ | apply Drawn0.step)⟩
              case round =>
                clear H'
                try clear c1
                try clear p2
                try clear c3
                try clear c4
                try clear c6
                try clear c6b0
                try clear p6
                try clear c7
                try clear c8
                try clear c8b0
                try clear c8b1
                try clear c9
                try clear c9b0
                try clear c11
                try clear c13
                try clear c14
                try clear c14b0
                try clear p2
                try clear p6
                obtain ⟨x1_2, x9_2, rfl, rfl, HA, HK2, ⟨m2, rfl⟩⟩ := hrel
                cases gk with
                | zero => exact absurd HA.out (by simp [trestleref17_Offset.l1])
                | succ k2 =>
                  have H := HA.out
                  clear HA
                  simp only [trestleref17_Offset.l1] at H
                  have HC15 := Aside0.mk H
                  clear H
                  go_upto_region 11 with (fail)
                  go_cut [45] (fun v45 wc => ∃ (kq : Nat) (x45_14 : Bool), v45 = .bool x45_14 ∧ Aside0 (trestleref17_Offset.j3 kq a0 x1_2 x9_2 x45_14 = some (r1, r2, r3)) ∧ Aside0 (kq ≤ k2) ∧ Drawn0 w wc)
                  case first =>
                    have H := HC15.out
                    clear HC15
                    by_cases c16 : x1_2 < 0
                    · rw [if_pos c16] at H
                      have c16b0 : decide (x1_2 < 0) = true := decide_eq_true c16
                      clear c16
                      (first | rw [c16b0] | (simp only [i64_w, i32_w]; rw [c16b0]) | skip)
                      have H' := Aside0.mk H
                      clear H
                      go_wp2
                      go_meet
                      case rel => exact ⟨_, (decide (x9_2 > 1)), (by first | rfl | (simp; done) | (simp [*]; done)), H', ⟨by have := HJ4.out; have := HK2.out; first | omega | exact Nat.le_refl _⟩, by repeat (first | exact Drawn0.refl _ | apply Drawn0.step)⟩
                    · rw [if_neg c16] at H
                      have c16b0 : decide (x1_2 < 0) = false := decide_eq_false c16
                      clear c16
                      (first | rw [c16b0] | (simp only [i64_w, i32_w]; rw [c16b0]) | skip)
                      have H' := Aside0.mk H
                      clear H
                      go_wp2
                      go_meet
                      case rel => exact ⟨_, (false), (by first | rfl | (simp; done) | (simp [*]; done)), H', ⟨by have := HJ4.out; have := HK2.out; first | omega | exact Nat.le_refl _⟩, by repeat (first | exact Drawn0.refl _ | apply Drawn0.step)⟩
                  case rest =>
                    clear HC15
                    try clear c1
                    try clear p2
                    try clear c3
                    try clear c4
                    try clear c6
                    try clear c6b0
                    try clear p6
                    try clear c7
                    try clear c8
                    try clear c8b0
                    try clear c8b1
                    try clear c9
                    try clear c9b0
                    try clear c11
                    try clear c13
                    try clear c14
                    try clear c14b0
                    try clear c16
                    try clear c16b0
                    try clear p2
                    try clear p6
                    obtain ⟨kq, x45_14, rfl, HA, HJ14, ⟨mc14, rfl⟩⟩ := hcut
                    cases kq with
                    | zero => exact absurd HA.out (by simp [trestleref17_Offset.j3])
                    | succ kj14 =>
                      have H := HA.out
                      clear HA
                      simp only [trestleref17_Offset.j3] at H
                      by_cases c17 : x45_14 = true
                      · subst c17
                        have H1 : (trestleref17_Offset.l2 kj14 a0 x1_2 (wrap64 (x9_2 - 1))) = some (r1, r2, r3) := by rw [if_pos rfl] at H; exact H
                        clear H
                        have H := H1
                        clear H1
                        have H' := Aside0.mk H
                        clear H
                        go_wp2
                        go_loopg [9] kj14 (fun kq v9 w' => ∃ (x9_4 : Int), v9 = .int .i64 x9_4 ∧ Aside0 (trestleref17_Offset.l2 kq a0 x1_2 x9_4 = some (r1, r2, r3)) ∧ Aside0 (kq ≤ kj14) ∧ Drawn0 w w')
                        case atStart => exact ⟨(wrap64 (x9_2 - 1)), (by first | rfl | (simp; done) | (simp [*]; done)), H', ⟨Nat.le_refl _⟩, by repeat (first | exact Drawn0.refl _ | apply Drawn0.step)⟩
                        case round =>
                          clear H'
                          try clear c1
                          try clear p2
                          try clear c3
                          try clear c4
                          try clear c6
                          try clear c6b0
                          try clear p6
                          try clear c7
                          try clear c8
                          try clear c8b0
                          try clear c8b1
                          try clear c9
                          try clear c9b0
                          try clear c11
                          try clear c13
                          try clear c14
                          try clear c14b0
                          try clear c16
                          try clear c16b0
                          try clear c17
                          try clear p2
                          try clear p6
                          obtain ⟨x9_4, rfl, HA, HK4, ⟨m4, rfl⟩⟩ := hrel
                          cases gk with
                          | zero => exact absurd HA.out (by simp [trestleref17_Offset.l2])
                          | succ k4 =>
                            have H := HA.out
                            clear HA
                            simp only [trestleref17_Offset.l2] at H
                            by_cases c18 : x9_4 > 1
                            · rw [if_pos c18] at H
                              have c18b0 : decide (1 < x9_4) = true := decide_eq_true c18
                              clear c18
                              replace H := Option.bind_eq_some_iff.mp H
                              obtain ⟨t253, A190, H⟩ := H
                              replace H : (if t253 = true then (trestleref17_Offset.l2 k4 a0 x1_2 (wrap64 (x9_4 - 1))) else (trestleref17_Offset.l1 k4 a0 (wrap64 (x1_2 + 1)) x9_4)) = some (r1, r2, r3) := H
                              have A19 := Aside0.mk A190
                              clear A190
                              by_cases c20 : t253 = true
                              · subst c20
                                have H1 : (trestleref17_Offset.l2 k4 a0 x1_2 (wrap64 (x9_4 - 1))) = some (r1, r2, r3) := by rw [if_pos rfl] at H; exact H
                                clear H
                                have H := H1
                                clear H1
                                have H' := Aside0.mk H
                                clear H
                                go_wp2_with (first | (go_at_call 63; (with_reducible refine (trestleref17_inner.calls a0 x9_4 true _ A19.out).mono ?_); rintro e w' ⟨rfl, ⟨nd, rfl⟩⟩))
                                go_roundg k4
                                case measure => have := HJ4.out; have := HK2.out; have := HJ14.out; have := HK4.out; omega
                                case rel => exact ⟨(wrap64 (x9_4 - 1)), (by first | rfl | (simp; done) | (simp [*]; done)), H', ⟨by have := HJ4.out; have := HK2.out; have := HJ14.out; have := HK4.out; omega⟩, by repeat (first | exact Drawn0.refl _ | apply Drawn0.step)⟩
                              · replace c20 := Bool.eq_false_iff.mpr c20
                                subst c20
                                have H1 : (trestleref17_Offset.l1 k4 a0 (wrap64 (x1_2 + 1)) x9_4) = some (r1, r2, r3) := by rw [if_neg (show ¬ (false = true) by decide)] at H; exact H
                                clear H
                                have H := H1
                                clear H1
                                have H' := Aside0.mk H
                                clear H
                                go_wp2_with (first | (go_at_call 63; (with_reducible refine (trestleref17_inner.calls a0 x9_4 false _ A19.out).mono ?_); rintro e w' ⟨rfl, ⟨nd, rfl⟩⟩))
                                go_roundg k4
                                case measure => have := HJ4.out; have := HK2.out; have := HJ14.out; have := HK4.out; omega
                                case rel => exact ⟨(wrap64 (x1_2 + 1)), (x9_4), (by first | rfl | (simp; done) | (simp [*]; done)), (by first | rfl | (simp; done) | (simp [*]; done)), H', ⟨by have := HJ4.out; have := HK2.out; have := HJ14.out; have := HK4.out; omega⟩, by repeat (first | exact Drawn0.refl _ | apply Drawn0.step)⟩
                            · rw [if_neg c18] at H
                              have c18b0 : decide (1 < x9_4) = false := decide_eq_false c18
                              clear c18
                              have H' := Aside0.mk H
                              clear H
                              go_wp2
                              go_roundg k4
                              case measure => have := HJ4.out; have := HK2.out; have := HJ14.out; have := HK4.out; omega
                              case rel => exact ⟨(wrap64 (x1_2 + 1)), (x9_4), (by first | rfl | (simp; done) | (simp [*]; done)), (by first | rfl | (simp; done) | (simp [*]; done)), H', ⟨by have := HJ4.out; have := HK2.out; have := HJ14.out; have := HK4.out; omega⟩, by repeat (first | exact Drawn0.refl _ | apply Drawn0.step)⟩
                      · replace c17 := Bool.eq_false_iff.mpr c17
                        subst c17
                        have H1 : (if x1_2 = 0 then (some (x9_2, true, 0)) else (some (0, false, 0))) = some (r1, r2, r3) := by rw [if_neg (show ¬ (false = true) by decide)] at H; exact H
                        clear H
                        have H := H1
                        clear H1
                        by_cases c21 : x1_2 = 0
                        · rw [if_pos c21] at H
                          have c21b0 : (x1_2 == 0) = true := beq_iff_eq.mpr c21
                          have c21b1 : (x1_2 != 0) = false := bne_eq_false_iff_eq.mpr c21
                          clear c21
                          simp only [Option.some.injEq, Prod.mk.injEq] at H
                          obtain ⟨rfl, rfl, rfl⟩ := H
                          go_wp2
                          go_ret3
                          exact ⟨by first | rfl | (simp; done) | (simp [*]; done), by repeat (first | exact Drawn0.refl _ | apply Drawn0.step)⟩
                        · rw [if_neg c21] at H
                          have c21b0 : (x1_2 == 0) = false := beq_eq_false_iff_ne.mpr c21
                          have c21b1 : (x1_2 != 0) = true := bne_iff_ne.mpr c21
                          simp only [Option.some.injEq, Prod.mk.injEq] at H
                          obtain ⟨rfl, rfl, rfl⟩ := H
                          go_wp2
                          go_ret3
                          exact ⟨by first | rfl | (simp; done) | (simp [*]; done), by repeat (first | exact Drawn0.refl _ | apply Drawn0.step)⟩
            · rw [if_neg c14] at H
              have c14b0 : decide (a1 < 0) = false := decide_eq_false c14
              clear c14
              have H' := Aside0.mk H
              clear H
              go_wp2_with (first | ((with_reducible refine gate_callee (f := 63) rfl ?_); refine goesL_ (some 37) rfl rfl Tryd.func63 (by kernel_rfl) rfl #[.string a0, .int .i64 t250] rfl (by (try simp only [List.map_toArray, List.map_cons, List.map_nil]); first | done | rfl | (simp only [List.length_drop, List.length_take]; rfl)) ?_; (with_reducible refine (trestleref17_inner.calls a0 t250 false _ A12.out).mono ?_); rintro e w' ⟨rfl, ⟨nd, rfl⟩⟩; refine ⟨_, rfl, ?_⟩))
              go_loopg [1, 9] kj4 (fun kq v1 v9 w' => ∃ (x1_2 : Int) (x9_2 : Int), v1 = .int .i64 x1_2 ∧ v9 = .int .i64 x9_2 ∧ Aside0 (trestleref17_Offset.l3 kq a0 x1_2 x9_2 = some (r1, r2, r3)) ∧ Aside0 (kq ≤ kj4) ∧ Drawn0 w w')
              case atStart => exact ⟨(wrap64 (a1 - 1)), (t250), (by first | rfl | (simp; done) | (simp [*]; done)), (by first | rfl | (simp; done) | (simp [*]; done)), H', ⟨Nat.le_refl _⟩, by repeat (first | exact Drawn0.refl _ | apply Drawn0.step)⟩
              case round =>
                clear H'
                try clear c1
                try clear c2
                try clear p2
                try clear c3
                try clear c4
                try clear c6
                try clear c6b0
                try clear p6
                try clear c7
                try clear c8
                try clear c8b0
                try clear c8b1
                try clear c9
                try clear c9b0
                try clear c11
                try clear c13
                try clear c14
                try clear c14b0
                try clear c16
                try clear c16b0
                try clear c17
                try clear c18
                try clear c18b0
                try clear c20
                try clear c21
                try clear c21b0
                try clear c21b1
                try clear p2
                try clear p6
                obtain ⟨x1_2, x9_2, rfl, rfl, HA, HK2, ⟨m2, rfl⟩⟩ := hrel
                cases gk with
                | zero => exact absurd HA.out (by simp [trestleref17_Offset.l3])
                | succ k2 =>
                  have H := HA.out
                  clear HA
                  simp only [trestleref17_Offset.l3] at H
                  have HC22 := Aside0.mk H
                  clear H
                  go_upto_region 17 with (fail)
                  go_cut [68] (fun v68 wc => ∃ (kq : Nat) (x68_21 : Bool), v68 = .bool x68_21 ∧ Aside0 (trestleref17_Offset.j6 kq a0 x1_2 x9_2 x68_21 = some (r1, r2, r3)) ∧ Aside0 (kq ≤ k2) ∧ Drawn0 w wc)
                  case first =>
                    have H := HC22.out
                    clear HC22
                    by_cases c23 : x1_2 > 0
                    · rw [if_pos c23] at H
                      have c23b0 : decide (0 < x1_2) = true := decide_eq_true c23
                      clear c23
                      (first | rw [c23b0] | (simp only [i64_w, i32_w]; rw [c23b0]) | skip)
                      have H' := Aside0.mk H
                      clear H
                      go_wp2
                      go_meet
                      case rel => exact ⟨_, (decide (x9_2 ≤ (a0.size : Int))), (by first | rfl | (simp; done) | (simp [*]; done)), H', ⟨by have := HJ4.out; have := HK2.out; first | omega | exact Nat.le_refl _⟩, by repeat (first | exact Drawn0.refl _ | apply Drawn0.step)⟩
                    · rw [if_neg c23] at H
                      have c23b0 : decide (0 < x1_2) = false := decide_eq_false c23
                      clear c23
                      (first | rw [c23b0] | (simp only [i64_w, i32_w]; rw [c23b0]) | skip)
                      have H' := Aside0.mk H
                      clear H
                      go_wp2
                      go_meet
                      case rel => exact ⟨_, (false), (by first | rfl | (simp; done) | (simp [*]; done)), H', ⟨by have := HJ4.out; have := HK2.out; first | omega | exact Nat.le_refl _⟩, by repeat (first | exact Drawn0.refl _ | apply Drawn0.step)⟩
                  case rest =>
                    clear HC22
                    try clear c1
                    try clear c2
                    try clear p2
                    try clear c3
                    try clear c4
                    try clear c6
                    try clear c6b0
                    try clear p6
                    try clear c7
                    try clear c8
                    try clear c8b0
                    try clear c8b1
                    try clear c9
                    try clear c9b0
                    try clear c11
                    try clear c13
                    try clear c14
                    try clear c14b0
                    try clear c16
                    try clear c16b0
                    try clear c17
                    try clear c18
                    try clear c18b0
                    try clear c20
                    try clear c21
                    try clear c21b0
                    try clear c21b1
                    try clear c23
                    try clear c23b0
                    try clear p2
                    try clear p6
                    obtain ⟨kq, x68_21, rfl, HA, HJ21, ⟨mc21, rfl⟩⟩ := hcut
                    cases kq with
                    | zero => exact absurd HA.out (by simp [trestleref17_Offset.j6])
                    | succ kj21 =>
                      have H := HA.out
                      clear HA
                      simp only [trestleref17_Offset.j6] at H
                      by_cases c24 : x68_21 = true
                      · subst c24
                        have H1 : (trestleref17_Offset.l4 kj21 a0 x1_2 (wrap64 (x9_2 + 1))) = some (r1, r2, r3) := by rw [if_pos rfl] at H; exact H
                        clear H
                        have H := H1
                        clear H1
                        have H' := Aside0.mk H
                        clear H
                        go_wp2
                        go_loopg [9] kj21 (fun kq v9 w' => ∃ (x9_4 : Int), v9 = .int .i64 x9_4 ∧ Aside0 (trestleref17_Offset.l4 kq a0 x1_2 x9_4 = some (r1, r2, r3)) ∧ Aside0 (kq ≤ kj21) ∧ Drawn0 w w')
                        case atStart => exact ⟨(wrap64 (x9_2 + 1)), (by first | rfl | (simp; done) | (simp [*]; done)), H', ⟨Nat.le_refl _⟩, by repeat (first | exact Drawn0.refl _ | apply Drawn0.step)⟩
                        case round =>
                          clear H'
                          try clear c1
                          try clear c2
                          try clear p2
                          try clear c3
                          try clear c4
                          try clear c6
                          try clear c6b0
                          try clear p6
                          try clear c7
                          try clear c8
                          try clear c8b0
                          try clear c8b1
                          try clear c9
                          try clear c9b0
                          try clear c11
                          try clear c13
                          try clear c14
                          try clear c14b0
                          try clear c16
                          try clear c16b0
                          try clear c17
                          try clear c18
                          try clear c18b0
                          try clear c20
                          try clear c21
                          try clear c21b0
                          try clear c21b1
                          try clear c23
                          try clear c23b0
                          try clear c24
                          try clear p2
                          try clear p6
                          obtain ⟨x9_4, rfl, HA, HK4, ⟨m4, rfl⟩⟩ := hrel
                          cases gk with
                          | zero => exact absurd HA.out (by simp [trestleref17_Offset.l4])
                          | succ k4 =>
                            have H := HA.out
                            clear HA
                            simp only [trestleref17_Offset.l4] at H
                            replace H := Option.bind_eq_some_iff.mp H
                            obtain ⟨t254, A250, H⟩ := H
                            replace H : (if t254 = true then (trestleref17_Offset.l4 k4 a0 x1_2 (wrap64 (x9_4 + 1))) else (trestleref17_Offset.l3 k4 a0 (wrap64 (x1_2 - 1)) x9_4)) = some (r1, r2, r3) := H
                            have A25 := Aside0.mk A250
                            clear A250
                            by_cases c26 : t254 = true
                            · subst c26
                              have H1 : (trestleref17_Offset.l4 k4 a0 x1_2 (wrap64 (x9_4 + 1))) = some (r1, r2, r3) := by rw [if_pos rfl] at H; exact H
                              clear H
                              have H := H1
                              clear H1
                              have H' := Aside0.mk H
                              clear H
                              go_wp2_with (first | ((with_reducible refine gate_callee (f := 63) rfl ?_); refine goesL_ (some 73) rfl rfl Tryd.func63 (by kernel_rfl) rfl #[.string a0, .int .i64 x9_4] rfl (by (try simp only [List.map_toArray, List.map_cons, List.map_nil]); first | done | rfl | (simp only [List.length_drop, List.length_take]; rfl)) ?_; (with_reducible refine (trestleref17_inner.calls a0 x9_4 true _ A25.out).mono ?_); rintro e w' ⟨rfl, ⟨nd, rfl⟩⟩; refine ⟨_, rfl, ?_⟩))
                              go_roundg k4
                              case measure => have := HJ4.out; have := HK2.out; have := HJ21.out; have := HK4.out; omega
                              case rel => exact ⟨(wrap64 (x9_4 + 1)), (by first | rfl | (simp; done) | (simp [*]; done)), H', ⟨by have := HJ4.out; have := HK2.out; have := HJ21.out; have := HK4.out; omega⟩, by repeat (first | exact Drawn0.refl _ | apply Drawn0.step)⟩
                            · replace c26 := Bool.eq_false_iff.mpr c26
                              subst c26
                              have H1 : (trestleref17_Offset.l3 k4 a0 (wrap64 (x1_2 - 1)) x9_4) = some (r1, r2, r3) := by rw [if_neg (show ¬ (false = true) by decide)] at H; exact H
                              clear H
                              have H := H1
                              clear H1
                              have H' := Aside0.mk H
                              clear H
                              go_wp2_with (first | ((with_reducible refine gate_callee (f := 63) rfl ?_); refine goesL_ (some 73) rfl rfl Tryd.func63 (by kernel_rfl) rfl #[.string a0, .int .i64 x9_4] rfl (by (try simp only [List.map_toArray, List.map_cons, List.map_nil]); first | done | rfl | (simp only [List.length_drop, List.length_take]; rfl)) ?_; (with_reducible refine (trestleref17_inner.calls a0 x9_4 false _ A25.out).mono ?_); rintro e w' ⟨rfl, ⟨nd, rfl⟩⟩; refine ⟨_, rfl, ?_⟩))
                              go_roundg k4
                              case measure => have := HJ4.out; have := HK2.out; have := HJ21.out; have := HK4.out; omega
                              case rel => exact ⟨(wrap64 (x1_2 - 1)), (x9_4), (by first | rfl | (simp; done) | (simp [*]; done)), (by first | rfl | (simp; done) | (simp [*]; done)), H', ⟨by have := HJ4.out; have := HK2.out; have := HJ21.out; have := HK4.out; omega⟩, by repeat (first | exact Drawn0.refl _ | apply Drawn0.step)⟩
                      · replace c24 := Bool.eq_false_iff.mpr c24
                        subst c24
                        have H1 : (if x1_2 = 0 then (some (x9_2, true, 0)) else (some (0, false, 0))) = some (r1, r2, r3) := by rw [if_neg (show ¬ (false = true) by decide)] at H; exact H
                        clear H
                        have H := H1
                        clear H1
                        by_cases c27 : x1_2 = 0
                        · rw [if_pos c27] at H
                          have c27b0 : (x1_2 == 0) = true := beq_iff_eq.mpr c27
                          have c27b1 : (x1_2 != 0) = false := bne_eq_false_iff_eq.mpr c27
                          clear c27
                          simp only [Option.some.injEq, Prod.mk.injEq] at H
                          obtain ⟨rfl, rfl, rfl⟩ := H
                          go_wp2
                          go_ret3
                          exact ⟨by first | rfl | (simp; done) | (simp [*]; done), by repeat (first | exact Drawn0.refl _ | apply Drawn0.step)⟩
                        · rw [if_neg c27] at H
                          have c27b0 : (x1_2 == 0) = false := beq_eq_false_iff_ne.mpr c27
                          have c27b1 : (x1_2 != 0) = true := bne_iff_ne.mpr c27
                          simp only [Option.some.injEq, Prod.mk.injEq] at H
                          obtain ⟨rfl, rfl, rfl⟩ := H
                          go_wp2
                          go_ret3
                          exact ⟨by first | rfl | (simp; done) | (simp [*]; done), by repeat (first | exact Drawn0.refl _ | apply Drawn0.step)⟩

end Go.Proofs.YtlmmhlabacghnaaDoor.PR
-- Written by a program of this session's (the kit's print, turned), out of the translation.
namespace Go.Proofs.YtlmmhlabacghnaaDoor.PR
open Go.RowKit Go.Proofs.YtlmmhlabacghnaaDoorW.PrintWords Go.Proofs.YtlmmhlabacghnaaDoorW.PrintLast Go.Proofs.YtlmmhlabacghnaaDoorW.PrintMore
attribute [local go_sem] max2_int min2_int max_two min_two max_three min_three max_four min_four   -- for this text's walks alone
set_option linter.unusedVariables false
set_option linter.unusedSimpArgs false

/-! ### trestleref17_bad: function 65 -/
def trestleref17_bad.f (a0_0 : Int) (a0_1 : Int) (a0_2 : Int) : Option (Bool) := if a0_2 = 65533 then (some (a0_1 == 1)) else (some false)
set_option maxHeartbeats 8000000 in
set_option maxRecDepth 100000 in
theorem trestleref17_bad.calls (a0_0 : Int) (a0_1 : Int) (a0_2 : Int) (r : Bool) (w : World) (h : trestleref17_bad.f a0_0 a0_1 a0_2 = some r) :
    Calls Tryd.prog 65 #[.agg #[.int .i64 a0_0, .int .i64 a0_1, .int .i64 a0_2]] w fun e w' => e = .returned (.bool r) ∧ Below w.heap.size w w' := by
  have hu32 := Tryd.underlying32
  have HB := Aside0.mk (Below.refl w.heap.size w)
  have H : (if a0_2 = 65533 then (some (a0_1 == 1)) else (some false)) = some r := h
  clear h
  by_cases c2 : a0_2 = 65533
  · rw [if_pos c2] at H
    have c2b0 : (a0_2 == 65533) = true := beq_iff_eq.mpr c2
    have c2b1 : (a0_2 != 65533) = false := bne_eq_false_iff_eq.mpr c2
    clear c2
    obtain rfl := Option.some.inj H
    go_enter Tryd.func65, Tryd.ntmps65
    go_wp2_with (first | ((with_reducible refine gate_dst (N := 1) rfl ?_); refine box_event ?hg (N := 1) ?hd (cs := #[.int .i64 a0_0, .int .i64 a0_1, .int .i64 a0_2]) (t := 32) ?hr ?_; (case hd => rfl); (case hg => rfl); (case hr => first | (go_simp; done) | (go_simp; rfl)); intro gb255 hg w3 hbox hb; have n0_ := Aside0.mk (below_step (by repeat (first | (with_reducible first | exact HB.out | apply below_alloc | apply pw_below_drewN | apply below_drew1) | exact HB.out)) hb); have n1_ := Aside0.mk (hbox); have n2_ := Aside0.mk ((by rw [hg]; exact (below_size (by repeat (first | (with_reducible first | exact HB.out | apply below_alloc | apply pw_below_drewN | apply below_drew1) | exact HB.out))) : w.heap.size ≤ gb255)); have n3_ := Aside0.mk ((by rw [hg]; exact (below_size (by repeat (first | (with_reducible first | exact HB.out | apply below_alloc | apply pw_below_drewN | apply below_drew1) | exact HB.out))) : w.heap.size ≤ gb255)); clear HB; have HB := n0_; have BK255 := n1_; have GW255 := n2_; have GE255 := n3_; clear n0_ n1_ n2_ n3_; clear hb hbox hg; have hcz4_0 : w3.cell? ⟨gb255, 0, none⟩ = some (.int .i64 a0_0) := (blk_cell BK255.out 0).trans rfl; have hcz4_1 : w3.cell? ⟨gb255, 1, none⟩ = some (.int .i64 a0_1) := (blk_cell BK255.out 1).trans rfl; have hcz4_2 : w3.cell? ⟨gb255, 2, none⟩ = some (.int .i64 a0_2) := (blk_cell BK255.out 2).trans rfl; have hfz4_0 := blk_frozen BK255.out 0; have hfz4_1 := blk_frozen BK255.out 1; have hfz4_2 := blk_frozen BK255.out 2))
    go_ret
    exact ⟨by first | rfl | (simp [errW_none, errW_some] <;> rfl) | (simp [*, errW_none, errW_some] <;> rfl), by repeat (first | (with_reducible first | exact HB.out | apply below_alloc | apply pw_below_drewN | apply below_drew1 | refine below_set ?_ GE255.out) | exact HB.out)⟩
  · rw [if_neg c2] at H
    have c2b0 : (a0_2 == 65533) = false := beq_eq_false_iff_ne.mpr c2
    have c2b1 : (a0_2 != 65533) = true := bne_iff_ne.mpr c2
    obtain rfl := Option.some.inj H
    go_enter Tryd.func65, Tryd.ntmps65
    go_wp2_with (first | ((with_reducible refine gate_dst (N := 1) rfl ?_); refine box_event ?hg (N := 1) ?hd (cs := #[.int .i64 a0_0, .int .i64 a0_1, .int .i64 a0_2]) (t := 32) ?hr ?_; (case hd => rfl); (case hg => rfl); (case hr => first | (go_simp; done) | (go_simp; rfl)); intro gb255 hg w5 hbox hb; have n0_ := Aside0.mk (below_step (by repeat (first | (with_reducible first | exact HB.out | apply below_alloc | apply pw_below_drewN | apply below_drew1) | exact HB.out)) hb); have n1_ := Aside0.mk (hbox); have n2_ := Aside0.mk ((by rw [hg]; exact (below_size (by repeat (first | (with_reducible first | exact HB.out | apply below_alloc | apply pw_below_drewN | apply below_drew1) | exact HB.out))) : w.heap.size ≤ gb255)); have n3_ := Aside0.mk ((by rw [hg]; exact (below_size (by repeat (first | (with_reducible first | exact HB.out | apply below_alloc | apply pw_below_drewN | apply below_drew1) | exact HB.out))) : w.heap.size ≤ gb255)); clear HB; have HB := n0_; have BK255 := n1_; have GW255 := n2_; have GE255 := n3_; clear n0_ n1_ n2_ n3_; clear hb hbox hg; have hcz6_0 : w5.cell? ⟨gb255, 0, none⟩ = some (.int .i64 a0_0) := (blk_cell BK255.out 0).trans rfl; have hcz6_1 : w5.cell? ⟨gb255, 1, none⟩ = some (.int .i64 a0_1) := (blk_cell BK255.out 1).trans rfl; have hcz6_2 : w5.cell? ⟨gb255, 2, none⟩ = some (.int .i64 a0_2) := (blk_cell BK255.out 2).trans rfl; have hfz6_0 := blk_frozen BK255.out 0; have hfz6_1 := blk_frozen BK255.out 1; have hfz6_2 := blk_frozen BK255.out 2))
    go_ret
    exact ⟨by first | rfl | (simp [errW_none, errW_some] <;> rfl) | (simp [*, errW_none, errW_some] <;> rfl), by repeat (first | (with_reducible first | exact HB.out | apply below_alloc | apply pw_below_drewN | apply below_drew1 | refine below_set ?_ GE255.out) | exact HB.out)⟩

/-! ### trestleref17_Step: function 37 -/
mutual
def trestleref17_Step.j0 : Nat → ByteArray → Int → Bool → Option (Int × Int × Bool × Int)
  | 0, _, _, _ => none
  | k + 1, x0, x1, x17 => if x17 = true then (some (0, 0, false, 1)) else (if x1 > 0 then ((trestleref01_At.f k x0 (wrap64 (x1 - 1))).bind fun bt256 => (trestleref17_Step.j1 k x0 (wrap64 ((wrap64 (x1 - 1)) + bt256.2.1)))) else (trestleref17_Step.j1 k x0 0))
def trestleref17_Step.j1 : Nat → ByteArray → Int → Option (Int × Int × Bool × Int)
  | 0, _, _ => none
  | k + 1, x0, x8 => if x8 ≥ (x0.size : Int) then (some (0, 0, false, 0)) else ((trestleref01_At.f k x0 x8).bind fun bt259 => ((trestleref17_bad.f bt259.1 bt259.2.1 bt259.2.2).bind fun t263 => (if t263 = true then (some (0, 0, false, 3)) else (some (wrap64 (x8 + 1), bt259.2.2, true, 0)))))
end
def trestleref17_Step.f (k : Nat) (a0 : ByteArray) (a1 : Int) : Option (Int × Int × Bool × Int) := if a1 < 0 then (trestleref17_Step.j0 k a0 a1 true) else (trestleref17_Step.j0 k a0 a1 (decide (a1 > (a0.size : Int))))
theorem trestleref17_Step.mono_l : ∀ k, (∀ y0 y1 y2, LeO (trestleref17_Step.j0 k y0 y1 y2) (trestleref17_Step.j0 (k + 1) y0 y1 y2)) ∧ (∀ y0 y1, LeO (trestleref17_Step.j1 k y0 y1) (trestleref17_Step.j1 (k + 1) y0 y1))
  | 0 => ⟨fun _ _ _ r h => by simp [trestleref17_Step.j0] at h, fun _ _ r h => by simp [trestleref17_Step.j1] at h⟩
  | k + 1 => by
    obtain ⟨ih0, ih1⟩ := trestleref17_Step.mono_l k
    refine ⟨?_, ?_⟩
    · intro y0 y1 y2
      unfold trestleref17_Step.j0
      repeat' first
      | (with_reducible exact ih0 _ _ _)
      | (with_reducible exact ih1 _ _)
      | (with_reducible exact trestleref01_At.mono _ _ _)
      | (with_reducible exact LeO.refl _)
      | (with_reducible exact LeO.none _)
      | (with_reducible refine LeO.ite ?_ ?_)
      | (with_reducible refine LeO.bind ?_ (fun _ => ?_))
      | exact ih0 _ _ _
      | exact ih1 _ _
      | exact trestleref01_At.mono _ _ _
      | exact LeO.none _
      | refine LeO.ite ?_ ?_
      | refine LeO.bind ?_ (fun _ => ?_)
    · intro y0 y1
      unfold trestleref17_Step.j1
      repeat' first
      | (with_reducible exact ih0 _ _ _)
      | (with_reducible exact ih1 _ _)
      | (with_reducible exact trestleref01_At.mono _ _ _)
      | (with_reducible exact LeO.refl _)
      | (with_reducible exact LeO.none _)
      | (with_reducible refine LeO.ite ?_ ?_)
      | (with_reducible refine LeO.bind ?_ (fun _ => ?_))
      | exact ih0 _ _ _
      | exact ih1 _ _
      | exact trestleref01_At.mono _ _ _
      | exact LeO.none _
      | refine LeO.ite ?_ ?_
      | refine LeO.bind ?_ (fun _ => ?_)
theorem trestleref17_Step.mono : ∀ a0 a1 k, LeO (trestleref17_Step.f k a0 a1) (trestleref17_Step.f (k + 1) a0 a1) := by
  intro a0 a1 k
  obtain ⟨ih0, ih1⟩ := trestleref17_Step.mono_l k
  unfold trestleref17_Step.f
  repeat' first
      | (with_reducible exact ih0 _ _ _)
      | (with_reducible exact ih1 _ _)
      | (with_reducible exact trestleref01_At.mono _ _ _)
      | (with_reducible exact LeO.refl _)
      | (with_reducible exact LeO.none _)
      | (with_reducible refine LeO.ite ?_ ?_)
      | (with_reducible refine LeO.bind ?_ (fun _ => ?_))
      | exact ih0 _ _ _
      | exact ih1 _ _
      | exact trestleref01_At.mono _ _ _
      | exact LeO.none _
      | refine LeO.ite ?_ ?_
      | refine LeO.bind ?_ (fun _ => ?_)
set_option maxHeartbeats 8000000 in
set_option maxRecDepth 100000 in
theorem trestleref17_Step.calls (k : Nat) (a0 : ByteArray) (a1 : Int) (r1 : Int) (r2 : Int) (r3 : Bool) (r4 : Int) (w : World) (h : trestleref17_Step.f k a0 a1 = some (r1, r2, r3, r4)) :
    Calls Tryd.prog 37 #[.string a0, .int .i64 a1] w fun e w' => e = .returned (.tuple #[.int .i64 r1, .int .i64 r2, .bool r3, .int .i64 r4]) ∧ Below w.heap.size w w' := by
  have hu32 := Tryd.underlying32
  have HB := Aside0.mk (Below.refl w.heap.size w)
  have H : (if a1 < 0 then (trestleref17_Step.j0 k a0 a1 true) else (trestleref17_Step.j0 k a0 a1 (decide (a1 > (a0.size : Int))))) = some (r1, r2, r3, r4) := h
  clear h
  have HC3 := Aside0.mk H
  clear H
  go_enter Tryd.func37, Tryd.ntmps37
  go_upto_region 1 with (fail)
  repeat (go_quiet (fail); go_upto_region 1 with (fail))
  go_cut [17] (fun v17 wc => ∃ (kq : Nat) (x17_2 : Bool), v17 = .bool x17_2 ∧ Aside0 (trestleref17_Step.j0 kq a0 a1 x17_2 = some (r1, r2, r3, r4)) ∧ Aside0 (kq ≤ k) ∧ Aside0 (Below w.heap.size w wc))
  case first =>
    have H := HC3.out
    clear HC3
    by_cases c4 : a1 < 0
    · rw [if_pos c4] at H
      have c4b0 : decide (a1 < 0) = true := decide_eq_true c4
      clear c4
      (first | rw [c4b0] | (simp only [i64_w, i32_w]; rw [c4b0]) | skip)
      have H' := Aside0.mk H
      clear H
      go_wp2
      repeat (go_quiet (fail); try go_wp2)
      go_meet
      case rel => exact ⟨_, (true), (by first | rfl | (simp; done) | (simp [*]; done)), H', ⟨by first | omega | exact Nat.le_refl _⟩, ⟨by repeat (first | (with_reducible first | exact HB.out | apply below_alloc | apply pw_below_drewN | apply below_drew1) | exact HB.out)⟩⟩
    · rw [if_neg c4] at H
      have c4b0 : decide (a1 < 0) = false := decide_eq_false c4
      clear c4
      (first | rw [c4b0] | (simp only [i64_w, i32_w]; rw [c4b0]) | skip)
      have H' := Aside0.mk H
      clear H
      go_wp2
      repeat (go_quiet (fail); try go_wp2)
      go_meet
      case rel => exact ⟨_, (decide (a1 > (a0.size : Int))), (by first | rfl | (simp; done) | (simp [*]; done)), H', ⟨by first | omega | exact Nat.le_refl _⟩, ⟨by repeat (first | (with_reducible first | exact HB.out | apply below_alloc | apply pw_below_drewN | apply below_drew1) | exact HB.out)⟩⟩
  case rest =>
    clear HC3
    try clear p2
    try clear c3
    try clear c4
    try clear c4b0
    obtain ⟨kq, x17_2, rfl, HA, HJ2, HB⟩ := hcut
    cases kq with
    | zero => exact absurd HA.out (by simp [trestleref17_Step.j0])
    | succ kj2 =>
      have H := HA.out
      clear HA
      simp only [trestleref17_Step.j0] at H
      by_cases c5 : x17_2 = true
      · subst c5
        have H1 : (some (0, 0, false, 1)) = some (r1, r2, r3, r4) := by rw [if_pos rfl] at H; exact H
        clear H
        have H := H1
        clear H1
        simp only [Option.some.injEq, Prod.mk.injEq] at H
        obtain ⟨rfl, rfl, rfl, rfl⟩ := H
        go_wp2
        repeat (go_quiet (fail); try go_wp2)
        refine bodyPost_ret (results_list (rs := [.tmp 4, .tmp 5, .tmp 6, .tmp 7]) rfl (by simp) (.tmp (.tmp (.tmp (.tmp .nil))))) rfl ?_
        exact ⟨by first | rfl | (simp [errW_none, errW_some] <;> rfl) | (simp [*, errW_none, errW_some] <;> rfl), by repeat (first | (with_reducible first | exact HB.out | apply below_alloc | apply pw_below_drewN | apply below_drew1) | exact HB.out)⟩
      · replace c5 := Bool.eq_false_iff.mpr c5
        subst c5
        have H1 : (if a1 > 0 then ((trestleref01_At.f kj2 a0 (wrap64 (a1 - 1))).bind fun bt256 => (trestleref17_Step.j1 kj2 a0 (wrap64 ((wrap64 (a1 - 1)) + bt256.2.1)))) else (trestleref17_Step.j1 kj2 a0 0)) = some (r1, r2, r3, r4) := by rw [if_neg (show ¬ (false = true) by decide)] at H; exact H
        clear H
        have H := H1
        clear H1
        have HC6 := Aside0.mk H
        clear H
        go_upto_if 19 with (fail)
        repeat (go_quiet (fail); go_upto_if 19 with (fail))
        go_cut [8] (fun v8 wc => ∃ (kq : Nat) (x8_5 : Int), v8 = .int .i64 x8_5 ∧ Aside0 (trestleref17_Step.j1 kq a0 x8_5 = some (r1, r2, r3, r4)) ∧ Aside0 (kq ≤ kj2) ∧ Aside0 (Below w.heap.size w wc))
        case first =>
          have H := HC6.out
          clear HC6
          by_cases c7 : a1 > 0
          · rw [if_pos c7] at H
            have c7b0 : decide (0 < a1) = true := decide_eq_true c7
            clear c7
            (first | rw [c7b0] | (simp only [i64_w, i32_w]; rw [c7b0]) | skip)
            replace H := Option.bind_eq_some_iff.mp H
            obtain ⟨⟨t256, t257, t258⟩, A80, H⟩ := H
            have hfd1_ : ∀ w : World, (Instr.field 32 (.agg #[.int .i64 t256, .int .i64 t257, .int .i64 t258]) 1).run Tryd.prog w = .ok (.int .i64 t257) w := fun _ => by kernel_rfl
            replace H : (trestleref17_Step.j1 kj2 a0 (wrap64 ((wrap64 (a1 - 1)) + t257))) = some (r1, r2, r3, r4) := H
            have A8 := Aside0.mk A80
            clear A80
            have H' := Aside0.mk H
            clear H
            go_wp2_with (first | (go_at_call 52; (with_reducible refine (trestleref01_At.calls kj2 a0 (wrap64 (a1 - 1)) t256 t257 t258 _ A8.out).mono ?_); rintro e w9 ⟨rfl, hb⟩; have n0_ := Aside0.mk (below_step (by repeat (first | (with_reducible first | exact HB.out | apply below_alloc | apply pw_below_drewN | apply below_drew1) | exact HB.out)) hb); clear HB; have HB := n0_; clear n0_; (try clear hb); (try clear hb2); (try clear hk); (try clear hi)))
            repeat (go_quiet (first | (go_at_call 52; (with_reducible refine (trestleref01_At.calls kj2 a0 (wrap64 (a1 - 1)) t256 t257 t258 _ A8.out).mono ?_); rintro e w9 ⟨rfl, hb⟩; have n0_ := Aside0.mk (below_step (by repeat (first | (with_reducible first | exact HB.out | apply below_alloc | apply pw_below_drewN | apply below_drew1) | exact HB.out)) hb); clear HB; have HB := n0_; clear n0_; (try clear hb); (try clear hb2); (try clear hk); (try clear hi))); try go_wp2_with (first | (go_at_call 52; (with_reducible refine (trestleref01_At.calls kj2 a0 (wrap64 (a1 - 1)) t256 t257 t258 _ A8.out).mono ?_); rintro e w9 ⟨rfl, hb⟩; have n0_ := Aside0.mk (below_step (by repeat (first | (with_reducible first | exact HB.out | apply below_alloc | apply pw_below_drewN | apply below_drew1) | exact HB.out)) hb); clear HB; have HB := n0_; clear n0_; (try clear hb); (try clear hb2); (try clear hk); (try clear hi))))
            go_meet
            case rel => exact ⟨_, (wrap64 ((wrap64 (a1 - 1)) + t257)), (by first | rfl | (simp; done) | (simp [*]; done)), H', ⟨by have := HJ2.out; first | omega | exact Nat.le_refl _⟩, ⟨by repeat (first | (with_reducible first | exact HB.out | apply below_alloc | apply pw_below_drewN | apply below_drew1) | exact HB.out)⟩⟩
          · rw [if_neg c7] at H
            have c7b0 : decide (0 < a1) = false := decide_eq_false c7
            clear c7
            (first | rw [c7b0] | (simp only [i64_w, i32_w]; rw [c7b0]) | skip)
            have H' := Aside0.mk H
            clear H
            go_wp2
            repeat (go_quiet (fail); try go_wp2)
            go_meet
            case rel => exact ⟨_, (0), (by first | rfl | (simp; done) | (simp [*]; done)), H', ⟨by have := HJ2.out; first | omega | exact Nat.le_refl _⟩, ⟨by repeat (first | (with_reducible first | exact HB.out | apply below_alloc | apply pw_below_drewN | apply below_drew1) | exact HB.out)⟩⟩
        case rest =>
          clear HC6
          try clear p2
          try clear c3
          try clear c4
          try clear c4b0
          try clear c5
          try clear p6
          try clear c7
          try clear c7b0
          try clear p2
          obtain ⟨kq, x8_5, rfl, HA, HJ5, HB⟩ := hcut
          cases kq with
          | zero => exact absurd HA.out (by simp [trestleref17_Step.j1])
          | succ kj5 =>
            have H := HA.out
            clear HA
            simp only [trestleref17_Step.j1] at H
            by_cases c10 : x8_5 ≥ (a0.size : Int)
            · rw [if_pos c10] at H
              have c10b0 : decide ((a0.size : Int) ≤ x8_5) = true := decide_eq_true c10
              clear c10
              simp only [Option.some.injEq, Prod.mk.injEq] at H
              obtain ⟨rfl, rfl, rfl, rfl⟩ := H
              go_wp2
              repeat (go_quiet (fail); try go_wp2)
              refine bodyPost_ret (results_list (rs := [.tmp 4, .tmp 5, .tmp 6, .tmp 7]) rfl (by simp) (.tmp (.tmp (.tmp (.tmp .nil))))) rfl ?_
              exact ⟨by first | rfl | (simp [errW_none, errW_some] <;> rfl) | (simp [*, errW_none, errW_some] <;> rfl), by repeat (first | (with_reducible first | exact HB.out | apply below_alloc | apply pw_below_drewN | apply below_drew1) | exact HB.out)⟩
            · rw [if_neg c10] at H
              have c10b0 : decide ((a0.size : Int) ≤ x8_5) = false := decide_eq_false c10
              clear c10
              replace H := Option.bind_eq_some_iff.mp H
              obtain ⟨⟨t259, t260, t261⟩, A110, H⟩ := H
              replace H : ((trestleref17_bad.f t259 t260 t261).bind fun t263 => (if t263 = true then (some (0, 0, false, 3)) else (some (wrap64 (x8_5 + 1), t261, true, 0)))) = some (r1, r2, r3, r4) := H
              have A11 := Aside0.mk A110
              clear A110
              replace H := Option.bind_eq_some_iff.mp H
              obtain ⟨t263, A120, H⟩ := H
              replace H : (if t263 = true then (some (0, 0, false, 3)) else (some (wrap64 (x8_5 + 1), t261, true, 0))) = some (r1, r2, r3, r4) := H
              have A12 := Aside0.mk A120
              clear A120
              by_cases c13 : t263 = true
              · subst c13
                have H1 : (some (0, 0, false, 3)) = some (r1, r2, r3, r4) := by rw [if_pos rfl] at H; exact H
                clear H
                have H := H1
                clear H1
                simp only [Option.some.injEq, Prod.mk.injEq] at H
                obtain ⟨rfl, rfl, rfl, rfl⟩ := H
                go_wp2_with (first | (go_at_call 52; (with_reducible refine (trestleref01_At.calls kj5 a0 x8_5 t259 t260 t261 _ A11.out).mono ?_); rintro e w14 ⟨rfl, hb⟩; have n0_ := Aside0.mk (below_step (by repeat (first | (with_reducible first | exact HB.out | apply below_alloc | apply pw_below_drewN | apply below_drew1) | exact HB.out)) hb); clear HB; have HB := n0_; clear n0_; (try clear hb); (try clear hb2); (try clear hk); (try clear hi)) | ((with_reducible refine gate_dst (N := 9) rfl ?_); (try (refine gate_guard (by rfl) ?_; dsimp only)); refine box_event ?hg (N := 9) ?hd (cs := #[.int .i64 0, .int .i64 0, .int .i64 0]) (t := 32) ?hr ?_; (case hd => rfl); (case hg => rfl); (case hr => first | (go_simp; done) | (go_simp; rfl)); intro gb262 hg w15 hbox hb; have n0_ := Aside0.mk (below_step (by repeat (first | (with_reducible first | exact HB.out | apply below_alloc | apply pw_below_drewN | apply below_drew1) | exact HB.out)) hb); have n1_ := Aside0.mk (hbox); have n2_ := Aside0.mk ((by rw [hg]; exact (below_size (by repeat (first | (with_reducible first | exact HB.out | apply below_alloc | apply pw_below_drewN | apply below_drew1) | exact HB.out))) : w.heap.size ≤ gb262)); have n3_ := Aside0.mk ((by rw [hg]; exact (below_size (by repeat (first | (with_reducible first | exact HB.out | apply below_alloc | apply pw_below_drewN | apply below_drew1) | exact HB.out))) : w.heap.size ≤ gb262)); clear HB; have HB := n0_; have BK262 := n1_; have GW262 := n2_; have GE262 := n3_; clear n0_ n1_ n2_ n3_; clear hb hbox hg; have hcz16_0 : w15.cell? ⟨gb262, 0, none⟩ = some (.int .i64 0) := (blk_cell BK262.out 0).trans rfl; have hcz16_1 : w15.cell? ⟨gb262, 1, none⟩ = some (.int .i64 0) := (blk_cell BK262.out 1).trans rfl; have hcz16_2 : w15.cell? ⟨gb262, 2, none⟩ = some (.int .i64 0) := (blk_cell BK262.out 2).trans rfl; have hfz16_0 := blk_frozen BK262.out 0; have hfz16_1 := blk_frozen BK262.out 1; have hfz16_2 := blk_frozen BK262.out 2) | (go_at_call 65; (with_reducible refine (trestleref17_bad.calls t259 t260 t261 true _ A12.out).mono ?_); rintro e w17 ⟨rfl, hb⟩; have n0_ := Aside0.mk (blk_below (g := gb262) (o := .cells #[.int .i64 t259, .int .i64 t260, .int .i64 t261] 32 (0, 0)) (by (with_reducible repeat (first | refine blk_drewN ?_ _ | refine blk_drew ?_ | refine blk_alloc ?_ _)); refine blk_put (cs := #[.int .i64 t259, .int .i64 t260, .int .i64 0]) ?_ 2 _ rfl; (with_reducible repeat (first | refine blk_drewN ?_ _ | refine blk_drew ?_ | refine blk_alloc ?_ _)); refine blk_put (cs := #[.int .i64 t259, .int .i64 0, .int .i64 0]) ?_ 1 _ rfl; (with_reducible repeat (first | refine blk_drewN ?_ _ | refine blk_drew ?_ | refine blk_alloc ?_ _)); refine blk_put (cs := #[.int .i64 0, .int .i64 0, .int .i64 0]) ?_ 0 _ rfl; (with_reducible repeat (first | refine blk_drewN ?_ _ | refine blk_drew ?_ | refine blk_alloc ?_ _)); exact BK262.out) hb); have n1_ := Aside0.mk (below_step (by repeat (first | (with_reducible first | exact HB.out | apply below_alloc | apply pw_below_drewN | apply below_drew1 | refine below_set ?_ GE262.out) | exact HB.out)) hb); clear BK262; clear HB; have BK262 := n0_; have HB := n1_; clear n0_ n1_; (try clear hb); (try clear hb2); (try clear hk); (try clear hi)))
                repeat (go_quiet (first | (go_at_call 52; (with_reducible refine (trestleref01_At.calls kj5 a0 x8_5 t259 t260 t261 _ A11.out).mono ?_); rintro e w14 ⟨rfl, hb⟩; have n0_ := Aside0.mk (below_step (by repeat (first | (with_reducible first | exact HB.out | apply below_alloc | apply pw_below_drewN | apply below_drew1) | exact HB.out)) hb); clear HB; have HB := n0_; clear n0_; (try clear hb); (try clear hb2); (try clear hk); (try clear hi)) | ((with_reducible refine gate_dst (N := 9) rfl ?_); (try (refine gate_guard (by rfl) ?_; dsimp only)); refine box_event ?hg (N := 9) ?hd (cs := #[.int .i64 0, .int .i64 0, .int .i64 0]) (t := 32) ?hr ?_; (case hd => rfl); (case hg => rfl); (case hr => first | (go_simp; done) | (go_simp; rfl)); intro gb262 hg w15 hbox hb; have n0_ := Aside0.mk (below_step (by repeat (first | (with_reducible first | exact HB.out | apply below_alloc | apply pw_below_drewN | apply below_drew1) | exact HB.out)) hb); have n1_ := Aside0.mk (hbox); have n2_ := Aside0.mk ((by rw [hg]; exact (below_size (by repeat (first | (with_reducible first | exact HB.out | apply below_alloc | apply pw_below_drewN | apply below_drew1) | exact HB.out))) : w.heap.size ≤ gb262)); have n3_ := Aside0.mk ((by rw [hg]; exact (below_size (by repeat (first | (with_reducible first | exact HB.out | apply below_alloc | apply pw_below_drewN | apply below_drew1) | exact HB.out))) : w.heap.size ≤ gb262)); clear HB; have HB := n0_; have BK262 := n1_; have GW262 := n2_; have GE262 := n3_; clear n0_ n1_ n2_ n3_; clear hb hbox hg; have hcz16_0 : w15.cell? ⟨gb262, 0, none⟩ = some (.int .i64 0) := (blk_cell BK262.out 0).trans rfl; have hcz16_1 : w15.cell? ⟨gb262, 1, none⟩ = some (.int .i64 0) := (blk_cell BK262.out 1).trans rfl; have hcz16_2 : w15.cell? ⟨gb262, 2, none⟩ = some (.int .i64 0) := (blk_cell BK262.out 2).trans rfl; have hfz16_0 := blk_frozen BK262.out 0; have hfz16_1 := blk_frozen BK262.out 1; have hfz16_2 := blk_frozen BK262.out 2) | (go_at_call 65; (with_reducible refine (trestleref17_bad.calls t259 t260 t261 true _ A12.out).mono ?_); rintro e w17 ⟨rfl, hb⟩; have n0_ := Aside0.mk (blk_below (g := gb262) (o := .cells #[.int .i64 t259, .int .i64 t260, .int .i64 t261] 32 (0, 0)) (by (with_reducible repeat (first | refine blk_drewN ?_ _ | refine blk_drew ?_ | refine blk_alloc ?_ _)); refine blk_put (cs := #[.int .i64 t259, .int .i64 t260, .int .i64 0]) ?_ 2 _ rfl; (with_reducible repeat (first | refine blk_drewN ?_ _ | refine blk_drew ?_ | refine blk_alloc ?_ _)); refine blk_put (cs := #[.int .i64 t259, .int .i64 0, .int .i64 0]) ?_ 1 _ rfl; (with_reducible repeat (first | refine blk_drewN ?_ _ | refine blk_drew ?_ | refine blk_alloc ?_ _)); refine blk_put (cs := #[.int .i64 0, .int .i64 0, .int .i64 0]) ?_ 0 _ rfl; (with_reducible repeat (first | refine blk_drewN ?_ _ | refine blk_drew ?_ | refine blk_alloc ?_ _)); exact BK262.out) hb); have n1_ := Aside0.mk (below_step (by repeat (first | (with_reducible first | exact HB.out | apply below_alloc | apply pw_below_drewN | apply below_drew1 | refine below_set ?_ GE262.out) | exact HB.out)) hb); clear BK262; clear HB; have BK262 := n0_; have HB := n1_; clear n0_ n1_; (try clear hb); (try clear hb2); (try clear hk); (try clear hi))); try go_wp2_with (first | (go_at_call 52; (with_reducible refine (trestleref01_At.calls kj5 a0 x8_5 t259 t260 t261 _ A11.out).mono ?_); rintro e w14 ⟨rfl, hb⟩; have n0_ := Aside0.mk (below_step (by repeat (first | (with_reducible first | exact HB.out | apply below_alloc | apply pw_below_drewN | apply below_drew1) | exact HB.out)) hb); clear HB; have HB := n0_; clear n0_; (try clear hb); (try clear hb2); (try clear hk); (try clear hi)) | ((with_reducible refine gate_dst (N := 9) rfl ?_); (try (refine gate_guard (by rfl) ?_; dsimp only)); refine box_event ?hg (N := 9) ?hd (cs := #[.int .i64 0, .int .i64 0, .int .i64 0]) (t := 32) ?hr ?_; (case hd => rfl); (case hg => rfl); (case hr => first | (go_simp; done) | (go_simp; rfl)); intro gb262 hg w15 hbox hb; have n0_ := Aside0.mk (below_step (by repeat (first | (with_reducible first | exact HB.out | apply below_alloc | apply pw_below_drewN | apply below_drew1) | exact HB.out)) hb); have n1_ := Aside0.mk (hbox); have n2_ := Aside0.mk ((by rw [hg]; exact (below_size (by repeat (first | (with_reducible first | exact HB.out | apply below_alloc | apply pw_below_drewN | apply below_drew1) | exact HB.out))) : w.heap.size ≤ gb262)); have n3_ := Aside0.mk ((by rw [hg]; exact (below_size (by repeat (first | (with_reducible first | exact HB.out | apply below_alloc | apply pw_below_drewN | apply below_drew1) | exact HB.out))) : w.heap.size ≤ gb262)); clear HB; have HB := n0_; have BK262 := n1_; have GW262 := n2_; have GE262 := n3_; clear n0_ n1_ n2_ n3_; clear hb hbox hg; have hcz16_0 : w15.cell? ⟨gb262, 0, none⟩ = some (.int .i64 0) := (blk_cell BK262.out 0).trans rfl; have hcz16_1 : w15.cell? ⟨gb262, 1, none⟩ = some (.int .i64 0) := (blk_cell BK262.out 1).trans rfl; have hcz16_2 : w15.cell? ⟨gb262, 2, none⟩ = some (.int .i64 0) := (blk_cell BK262.out 2).trans rfl; have hfz16_0 := blk_frozen BK262.out 0; have hfz16_1 := blk_frozen BK262.out 1; have hfz16_2 := blk_frozen BK262.out 2) | (go_at_call 65; (with_reducible refine (trestleref17_bad.calls t259 t260 t261 true _ A12.out).mono ?_); rintro e w17 ⟨rfl, hb⟩; have n0_ := Aside0.mk (blk_below (g := gb262) (o := .cells #[.int .i64 t259, .int .i64 t260, .int .i64 t261] 32 (0, 0)) (by (with_reducible repeat (first | refine blk_drewN ?_ _ | refine blk_drew ?_ | refine blk_alloc ?_ _)); refine blk_put (cs := #[.int .i64 t259, .int .i64 t260, .int .i64 0]) ?_ 2 _ rfl; (with_reducible repeat (first | refine blk_drewN ?_ _ | refine blk_drew ?_ | refine blk_alloc ?_ _)); refine blk_put (cs := #[.int .i64 t259, .int .i64 0, .int .i64 0]) ?_ 1 _ rfl; (with_reducible repeat (first | refine blk_drewN ?_ _ | refine blk_drew ?_ | refine blk_alloc ?_ _)); refine blk_put (cs := #[.int .i64 0, .int .i64 0, .int .i64 0]) ?_ 0 _ rfl; (with_reducible repeat (first | refine blk_drewN ?_ _ | refine blk_drew ?_ | refine blk_alloc ?_ _)); exact BK262.out) hb); have n1_ := Aside0.mk (below_step (by repeat (first | (with_reducible first | exact HB.out | apply below_alloc | apply pw_below_drewN | apply below_drew1 | refine below_set ?_ GE262.out) | exact HB.out)) hb); clear BK262; clear HB; have BK262 := n0_; have HB := n1_; clear n0_ n1_; (try clear hb); (try clear hb2); (try clear hk); (try clear hi))))
                refine bodyPost_ret (results_list (rs := [.tmp 4, .tmp 5, .tmp 6, .tmp 7]) rfl (by simp) (.tmp (.tmp (.tmp (.tmp .nil))))) rfl ?_
                exact ⟨by first | rfl | (simp [errW_none, errW_some] <;> rfl) | (simp [*, errW_none, errW_some] <;> rfl), by repeat (first | (with_reducible first | exact HB.out | apply below_alloc | apply pw_below_drewN | apply below_drew1 | refine below_set ?_ GE262.out) | exact HB.out)⟩
              · replace c13 := Bool.eq_false_iff.mpr c13
                subst c13
                have H1 : (some (wrap64 (x8_5 + 1), t261, true, 0)) = some (r1, r2, r3, r4) := by rw [if_neg (show ¬ (false = true) by decide)] at H; exact H
                clear H
                have H := H1
                clear H1
                simp only [Option.some.injEq, Prod.mk.injEq] at H
                obtain ⟨rfl, rfl, rfl, rfl⟩ := H
                go_wp2_with (first | (go_at_call 52; (with_reducible refine (trestleref01_At.calls kj5 a0 x8_5 t259 t260 t261 _ A11.out).mono ?_); rintro e w18 ⟨rfl, hb⟩; have n0_ := Aside0.mk (below_step (by repeat (first | (with_reducible first | exact HB.out | apply below_alloc | apply pw_below_drewN | apply below_drew1) | exact HB.out)) hb); clear HB; have HB := n0_; clear n0_; (try clear hb); (try clear hb2); (try clear hk); (try clear hi)) | ((with_reducible refine gate_dst (N := 9) rfl ?_); (try (refine gate_guard (by rfl) ?_; dsimp only)); refine box_event ?hg (N := 9) ?hd (cs := #[.int .i64 0, .int .i64 0, .int .i64 0]) (t := 32) ?hr ?_; (case hd => rfl); (case hg => rfl); (case hr => first | (go_simp; done) | (go_simp; rfl)); intro gb262 hg w19 hbox hb; have n0_ := Aside0.mk (below_step (by repeat (first | (with_reducible first | exact HB.out | apply below_alloc | apply pw_below_drewN | apply below_drew1) | exact HB.out)) hb); have n1_ := Aside0.mk (hbox); have n2_ := Aside0.mk ((by rw [hg]; exact (below_size (by repeat (first | (with_reducible first | exact HB.out | apply below_alloc | apply pw_below_drewN | apply below_drew1) | exact HB.out))) : w.heap.size ≤ gb262)); have n3_ := Aside0.mk ((by rw [hg]; exact (below_size (by repeat (first | (with_reducible first | exact HB.out | apply below_alloc | apply pw_below_drewN | apply below_drew1) | exact HB.out))) : w.heap.size ≤ gb262)); clear HB; have HB := n0_; have BK262 := n1_; have GW262 := n2_; have GE262 := n3_; clear n0_ n1_ n2_ n3_; clear hb hbox hg; have hcz20_0 : w19.cell? ⟨gb262, 0, none⟩ = some (.int .i64 0) := (blk_cell BK262.out 0).trans rfl; have hcz20_1 : w19.cell? ⟨gb262, 1, none⟩ = some (.int .i64 0) := (blk_cell BK262.out 1).trans rfl; have hcz20_2 : w19.cell? ⟨gb262, 2, none⟩ = some (.int .i64 0) := (blk_cell BK262.out 2).trans rfl; have hfz20_0 := blk_frozen BK262.out 0; have hfz20_1 := blk_frozen BK262.out 1; have hfz20_2 := blk_frozen BK262.out 2) | (go_at_call 65; (with_reducible refine (trestleref17_bad.calls t259 t260 t261 false _ A12.out).mono ?_); rintro e w21 ⟨rfl, hb⟩; have n0_ := Aside0.mk (blk_below (g := gb262) (o := .cells #[.int .i64 t259, .int .i64 t260, .int .i64 t261] 32 (0, 0)) (by (with_reducible repeat (first | refine blk_drewN ?_ _ | refine blk_drew ?_ | refine blk_alloc ?_ _)); refine blk_put (cs := #[.int .i64 t259, .int .i64 t260, .int .i64 0]) ?_ 2 _ rfl; (with_reducible repeat (first | refine blk_drewN ?_ _ | refine blk_drew ?_ | refine blk_alloc ?_ _)); refine blk_put (cs := #[.int .i64 t259, .int .i64 0, .int .i64 0]) ?_ 1 _ rfl; (with_reducible repeat (first | refine blk_drewN ?_ _ | refine blk_drew ?_ | refine blk_alloc ?_ _)); refine blk_put (cs := #[.int .i64 0, .int .i64 0, .int .i64 0]) ?_ 0 _ rfl; (with_reducible repeat (first | refine blk_drewN ?_ _ | refine blk_drew ?_ | refine blk_alloc ?_ _)); exact BK262.out) hb); have n1_ := Aside0.mk (below_step (by repeat (first | (with_reducible first | exact HB.out | apply below_alloc | apply pw_below_drewN | apply below_drew1 | refine below_set ?_ GE262.out) | exact HB.out)) hb); clear BK262; clear HB; have BK262 := n0_; have HB := n1_; clear n0_ n1_; (try clear hb); (try clear hb2); (try clear hk); (try clear hi); have hcz22_0 : w21.cell? ⟨gb262, 0, none⟩ = some (.int .i64 t259) := (blk_cell BK262.out 0).trans rfl; have hcz22_1 : w21.cell? ⟨gb262, 1, none⟩ = some (.int .i64 t260) := (blk_cell BK262.out 1).trans rfl; have hcz22_2 : w21.cell? ⟨gb262, 2, none⟩ = some (.int .i64 t261) := (blk_cell BK262.out 2).trans rfl; have hfz22_0 := blk_frozen BK262.out 0; have hfz22_1 := blk_frozen BK262.out 1; have hfz22_2 := blk_frozen BK262.out 2))
                repeat (go_quiet (first | (go_at_call 52; (with_reducible refine (trestleref01_At.calls kj5 a0 x8_5 t259 t260 t261 _ A11.out).mono ?_); rintro e w18 ⟨rfl, hb⟩; have n0_ := Aside0.mk (below_step (by repeat (first | (with_reducible first | exact HB.out | apply below_alloc | apply pw_below_drewN | apply below_drew1) | exact HB.out)) hb); clear HB; have HB := n0_; clear n0_; (try clear hb); (try clear hb2); (try clear hk); (try clear hi)) | ((with_reducible refine gate_dst (N := 9) rfl ?_); (try (refine gate_guard (by rfl) ?_; dsimp only)); refine box_event ?hg (N := 9) ?hd (cs := #[.int .i64 0, .int .i64 0, .int .i64 0]) (t := 32) ?hr ?_; (case hd => rfl); (case hg => rfl); (case hr => first | (go_simp; done) | (go_simp; rfl)); intro gb262 hg w19 hbox hb; have n0_ := Aside0.mk (below_step (by repeat (first | (with_reducible first | exact HB.out | apply below_alloc | apply pw_below_drewN | apply below_drew1) | exact HB.out)) hb); have n1_ := Aside0.mk (hbox); have n2_ := Aside0.mk ((by rw [hg]; exact (below_size (by repeat (first | (with_reducible first | exact HB.out | apply below_alloc | apply pw_below_drewN | apply below_drew1) | exact HB.out))) : w.heap.size ≤ gb262)); have n3_ := Aside0.mk ((by rw [hg]; exact (below_size (by repeat (first | (with_reducible first | exact HB.out | apply below_alloc | apply pw_below_drewN | apply below_drew1) | exact HB.out))) : w.heap.size ≤ gb262)); clear HB; have HB := n0_; have BK262 := n1_; have GW262 := n2_; have GE262 := n3_; clear n0_ n1_ n2_ n3_; clear hb hbox hg; have hcz20_0 : w19.cell? ⟨gb262, 0, none⟩ = some (.int .i64 0) := (blk_cell BK262.out 0).trans rfl; have hcz20_1 : w19.cell? ⟨gb262, 1, none⟩ = some (.int .i64 0) := (blk_cell BK262.out 1).trans rfl; have hcz20_2 : w19.cell? ⟨gb262, 2, none⟩ = some (.int .i64 0) := (blk_cell BK262.out 2).trans rfl; have hfz20_0 := blk_frozen BK262.out 0; have hfz20_1 := blk_frozen BK262.out 1; have hfz20_2 := blk_frozen BK262.out 2) | (go_at_call 65; (with_reducible refine (trestleref17_bad.calls t259 t260 t261 false _ A12.out).mono ?_); rintro e w21 ⟨rfl, hb⟩; have n0_ := Aside0.mk (blk_below (g := gb262) (o := .cells #[.int .i64 t259, .int .i64 t260, .int .i64 t261] 32 (0, 0)) (by (with_reducible repeat (first | refine blk_drewN ?_ _ | refine blk_drew ?_ | refine blk_alloc ?_ _)); refine blk_put (cs := #[.int .i64 t259, .int .i64 t260, .int .i64 0]) ?_ 2 _ rfl; (with_reducible repeat (first | refine blk_drewN ?_ _ | refine blk_drew ?_ | refine blk_alloc ?_ _)); refine blk_put (cs := #[.int .i64 t259, .int .i64 0, .int .i64 0]) ?_ 1 _ rfl; (with_reducible repeat (first | refine blk_drewN ?_ _ | refine blk_drew ?_ | refine blk_alloc ?_ _)); refine blk_put (cs := #[.int .i64 0, .int .i64 0, .int .i64 0]) ?_ 0 _ rfl; (with_reducible repeat (first | refine blk_drewN ?_ _ | refine blk_drew ?_ | refine blk_alloc ?_ _)); exact BK262.out) hb); have n1_ := Aside0.mk (below_step (by repeat (first | (with_reducible first | exact HB.out | apply below_alloc | apply pw_below_drewN | apply below_drew1 | refine below_set ?_ GE262.out) | exact HB.out)) hb); clear BK262; clear HB; have BK262 := n0_; have HB := n1_; clear n0_ n1_; (try clear hb); (try clear hb2); (try clear hk); (try clear hi); have hcz22_0 : w21.cell? ⟨gb262, 0, none⟩ = some (.int .i64 t259) := (blk_cell BK262.out 0).trans rfl; have hcz22_1 : w21.cell? ⟨gb262, 1, none⟩ = some (.int .i64 t260) := (blk_cell BK262.out 1).trans rfl; have hcz22_2 : w21.cell? ⟨gb262, 2, none⟩ = some (.int .i64 t261) := (blk_cell BK262.out 2).trans rfl; have hfz22_0 := blk_frozen BK262.out 0; have hfz22_1 := blk_frozen BK262.out 1; have hfz22_2 := blk_frozen BK262.out 2)); try go_wp2_with (first | (go_at_call 52; (with_reducible refine (trestleref01_At.calls kj5 a0 x8_5 t259 t260 t261 _ A11.out).mono ?_); rintro e w18 ⟨rfl, hb⟩; have n0_ := Aside0.mk (below_step (by repeat (first | (with_reducible first | exact HB.out | apply below_alloc | apply pw_below_drewN | apply below_drew1) | exact HB.out)) hb); clear HB; have HB := n0_; clear n0_; (try clear hb); (try clear hb2); (try clear hk); (try clear hi)) | ((with_reducible refine gate_dst (N := 9) rfl ?_); (try (refine gate_guard (by rfl) ?_; dsimp only)); refine box_event ?hg (N := 9) ?hd (cs := #[.int .i64 0, .int .i64 0, .int .i64 0]) (t := 32) ?hr ?_; (case hd => rfl); (case hg => rfl); (case hr => first | (go_simp; done) | (go_simp; rfl)); intro gb262 hg w19 hbox hb; have n0_ := Aside0.mk (below_step (by repeat (first | (with_reducible first | exact HB.out | apply below_alloc | apply pw_below_drewN | apply below_drew1) | exact HB.out)) hb); have n1_ := Aside0.mk (hbox); have n2_ := Aside0.mk ((by rw [hg]; exact (below_size (by repeat (first | (with_reducible first | exact HB.out | apply below_alloc | apply pw_below_drewN | apply below_drew1) | exact HB.out))) : w.heap.size ≤ gb262)); have n3_ := Aside0.mk ((by rw [hg]; exact (below_size (by repeat (first | (with_reducible first | exact HB.out | apply below_alloc | apply pw_below_drewN | apply below_drew1) | exact HB.out))) : w.heap.size ≤ gb262)); clear HB; have HB := n0_; have BK262 := n1_; have GW262 := n2_; have GE262 := n3_; clear n0_ n1_ n2_ n3_; clear hb hbox hg; have hcz20_0 : w19.cell? ⟨gb262, 0, none⟩ = some (.int .i64 0) := (blk_cell BK262.out 0).trans rfl; have hcz20_1 : w19.cell? ⟨gb262, 1, none⟩ = some (.int .i64 0) := (blk_cell BK262.out 1).trans rfl; have hcz20_2 : w19.cell? ⟨gb262, 2, none⟩ = some (.int .i64 0) := (blk_cell BK262.out 2).trans rfl; have hfz20_0 := blk_frozen BK262.out 0; have hfz20_1 := blk_frozen BK262.out 1; have hfz20_2 := blk_frozen BK262.out 2) | (go_at_call 65; (with_reducible refine (trestleref17_bad.calls t259 t260 t261 false _ A12.out).mono ?_); rintro e w21 ⟨rfl, hb⟩; have n0_ := Aside0.mk (blk_below (g := gb262) (o := .cells #[.int .i64 t259, .int .i64 t260, .int .i64 t261] 32 (0, 0)) (by (with_reducible repeat (first | refine blk_drewN ?_ _ | refine blk_drew ?_ | refine blk_alloc ?_ _)); refine blk_put (cs := #[.int .i64 t259, .int .i64 t260, .int .i64 0]) ?_ 2 _ rfl; (with_reducible repeat (first | refine blk_drewN ?_ _ | refine blk_drew ?_ | refine blk_alloc ?_ _)); refine blk_put (cs := #[.int .i64 t259, .int .i64 0, .int .i64 0]) ?_ 1 _ rfl; (with_reducible repeat (first | refine blk_drewN ?_ _ | refine blk_drew ?_ | refine blk_alloc ?_ _)); refine blk_put (cs := #[.int .i64 0, .int .i64 0, .int .i64 0]) ?_ 0 _ rfl; (with_reducible repeat (first | refine blk_drewN ?_ _ | refine blk_drew ?_ | refine blk_alloc ?_ _)); exact BK262.out) hb); have n1_ := Aside0.mk (below_step (by repeat (first | (with_reducible first | exact HB.out | apply below_alloc | apply pw_below_drewN | apply below_drew1 | refine below_set ?_ GE262.out) | exact HB.out)) hb); clear BK262; clear HB; have BK262 := n0_; have HB := n1_; clear n0_ n1_; (try clear hb); (try clear hb2); (try clear hk); (try clear hi); have hcz22_0 : w21.cell? ⟨gb262, 0, none⟩ = some (.int .i64 t259) := (blk_cell BK262.out 0).trans rfl; have hcz22_1 : w21.cell? ⟨gb262, 1, none⟩ = some (.int .i64 t260) := (blk_cell BK262.out 1).trans rfl; have hcz22_2 : w21.cell? ⟨gb262, 2, none⟩ = some (.int .i64 t261) := (blk_cell BK262.out 2).trans rfl; have hfz22_0 := blk_frozen BK262.out 0; have hfz22_1 := blk_frozen BK262.out 1; have hfz22_2 := blk_frozen BK262.out 2)))
                refine bodyPost_ret (results_list (rs := [.tmp 4, .tmp 5, .tmp 6, .tmp 7]) rfl (by simp) (.tmp (.tmp (.tmp (.tmp .nil))))) rfl ?_
                exact ⟨by first | rfl | (simp [errW_none, errW_some] <;> rfl) | (simp [*, errW_none, errW_some] <;> rfl), by repeat (first | (with_reducible first | exact HB.out | apply below_alloc | apply pw_below_drewN | apply below_drew1 | refine below_set ?_ GE262.out) | exact HB.out)⟩

end Go.Proofs.YtlmmhlabacghnaaDoor.PR
-- Written by a program of this session's (the kit's print, turned), out of the translation.
namespace Go.Proofs.YtlmmhlabacghnaaDoor.PR
open Go.RowKit Go.Proofs.YtlmmhlabacghnaaDoorW.PrintWords Go.Proofs.YtlmmhlabacghnaaDoorW.PrintLast Go.Proofs.YtlmmhlabacghnaaDoorW.PrintMore
attribute [local go_sem] max2_int min2_int max_two min_two max_three min_three max_four min_four   -- for this text's walks alone
set_option linter.unusedVariables false
set_option linter.unusedSimpArgs false

/-! ### trestlelaw17_UtflibOffsets: function 7 -/
def trestlelaw17_UtflibOffsets.j0 : Nat → ByteArray → Int → Bool → Option (Bool)
  | 0, _, _, _ => none
  | k + 1, x0, x2, x51 => if x51 = true then (some false) else ((utflib_Step.f k x0 x2).bind fun bt271 => ((trestleref17_Step.f k x0 x2).bind fun bt275 => (if bt271.1 = bt275.1 then (if bt271.2.1 = bt275.2.1 then (if (bt271.2.2.1 == bt275.2.2.1) = true then (some (bt271.2.2.2 == bt275.2.2.2)) else (some false)) else (some false)) else (some false))))
def trestlelaw17_UtflibOffsets.f (k : Nat) (a0 : ByteArray) (a1 : Int) (a2 : Int) : Option (Bool) := (utflib_Offset.f k a0 a1 a2).bind fun bt264 => ((trestleref17_Offset.f k a0 a1 a2).bind fun bt267 => ((trestlelaw17_fixed.f k).bind fun t270 => (if t270 = true then (if bt264.1 = bt267.1 then (if (bt264.2.1 != bt267.2.1) = true then (trestlelaw17_UtflibOffsets.j0 k a0 a2 true) else (trestlelaw17_UtflibOffsets.j0 k a0 a2 (bt264.2.2 != bt267.2.2))) else (trestlelaw17_UtflibOffsets.j0 k a0 a2 true)) else (trestlelaw17_UtflibOffsets.j0 k a0 a2 true))))
theorem trestlelaw17_UtflibOffsets.mono_l : ∀ k, (∀ y0 y1 y2, LeO (trestlelaw17_UtflibOffsets.j0 k y0 y1 y2) (trestlelaw17_UtflibOffsets.j0 (k + 1) y0 y1 y2))
  | 0 => fun _ _ _ r h => by simp [trestlelaw17_UtflibOffsets.j0] at h
  | k + 1 => by
    have ih0 := trestlelaw17_UtflibOffsets.mono_l k
    · intro y0 y1 y2
      unfold trestlelaw17_UtflibOffsets.j0
      repeat' first
      | (with_reducible exact ih0 _ _ _)
      | (with_reducible exact trestlelaw17_fixed.mono _)
      | (with_reducible exact trestleref17_Offset.mono _ _ _ _)
      | (with_reducible exact trestleref17_Step.mono _ _ _)
      | (with_reducible exact utflib_Offset.mono _ _ _ _)
      | (with_reducible exact utflib_Step.mono _ _ _)
      | (with_reducible exact LeO.refl _)
      | (with_reducible exact LeO.none _)
      | (with_reducible refine LeO.ite ?_ ?_)
      | (with_reducible refine LeO.bind ?_ (fun _ => ?_))
      | exact ih0 _ _ _
      | exact trestlelaw17_fixed.mono _
      | exact trestleref17_Offset.mono _ _ _ _
      | exact trestleref17_Step.mono _ _ _
      | exact utflib_Offset.mono _ _ _ _
      | exact utflib_Step.mono _ _ _
      | exact LeO.none _
      | refine LeO.ite ?_ ?_
      | refine LeO.bind ?_ (fun _ => ?_)
theorem trestlelaw17_UtflibOffsets.mono : ∀ a0 a1 a2 k, LeO (trestlelaw17_UtflibOffsets.f k a0 a1 a2) (trestlelaw17_UtflibOffsets.f (k + 1) a0 a1 a2) := by
  intro a0 a1 a2 k
  have ih0 := trestlelaw17_UtflibOffsets.mono_l k
  unfold trestlelaw17_UtflibOffsets.f
  repeat' first
      | (with_reducible exact ih0 _ _ _)
      | (with_reducible exact trestlelaw17_fixed.mono _)
      | (with_reducible exact trestleref17_Offset.mono _ _ _ _)
      | (with_reducible exact trestleref17_Step.mono _ _ _)
      | (with_reducible exact utflib_Offset.mono _ _ _ _)
      | (with_reducible exact utflib_Step.mono _ _ _)
      | (with_reducible exact LeO.refl _)
      | (with_reducible exact LeO.none _)
      | (with_reducible refine LeO.ite ?_ ?_)
      | (with_reducible refine LeO.bind ?_ (fun _ => ?_))
      | exact ih0 _ _ _
      | exact trestlelaw17_fixed.mono _
      | exact trestleref17_Offset.mono _ _ _ _
      | exact trestleref17_Step.mono _ _ _
      | exact utflib_Offset.mono _ _ _ _
      | exact utflib_Step.mono _ _ _
      | exact LeO.none _
      | refine LeO.ite ?_ ?_
      | refine LeO.bind ?_ (fun _ => ?_)
set_option maxHeartbeats 8000000 in
set_option maxRecDepth 100000 in
theorem trestlelaw17_UtflibOffsets.calls (k : Nat) (a0 : ByteArray) (a1 : Int) (a2 : Int) (r : Bool) (w : World) (h : trestlelaw17_UtflibOffsets.f k a0 a1 a2 = some r) (HT_ : RowKit.Hid (Lib.Utf8Tabs 0 1 w)) :
    Calls Tryd.prog 7 #[.string a0, .int .i64 a1, .int .i64 a2] w fun e w' => e = .returned (.bool r) ∧ Below w.heap.size w w' := by
  have HB := Aside0.mk (Below.refl w.heap.size w)
  have H : ((utflib_Offset.f k a0 a1 a2).bind fun bt264 => ((trestleref17_Offset.f k a0 a1 a2).bind fun bt267 => ((trestlelaw17_fixed.f k).bind fun t270 => (if t270 = true then (if bt264.1 = bt267.1 then (if (bt264.2.1 != bt267.2.1) = true then (trestlelaw17_UtflibOffsets.j0 k a0 a2 true) else (trestlelaw17_UtflibOffsets.j0 k a0 a2 (bt264.2.2 != bt267.2.2))) else (trestlelaw17_UtflibOffsets.j0 k a0 a2 true)) else (trestlelaw17_UtflibOffsets.j0 k a0 a2 true))))) = some r := h
  clear h
  replace H := Option.bind_eq_some_iff.mp H
  obtain ⟨⟨t264, t265, t266⟩, A40, H⟩ := H
  replace H : ((trestleref17_Offset.f k a0 a1 a2).bind fun bt267 => ((trestlelaw17_fixed.f k).bind fun t270 => (if t270 = true then (if t264 = bt267.1 then (if (t265 != bt267.2.1) = true then (trestlelaw17_UtflibOffsets.j0 k a0 a2 true) else (trestlelaw17_UtflibOffsets.j0 k a0 a2 (t266 != bt267.2.2))) else (trestlelaw17_UtflibOffsets.j0 k a0 a2 true)) else (trestlelaw17_UtflibOffsets.j0 k a0 a2 true)))) = some r := H
  have A4 := Aside0.mk A40
  clear A40
  replace H := Option.bind_eq_some_iff.mp H
  obtain ⟨⟨t267, t268, t269⟩, A50, H⟩ := H
  replace H : ((trestlelaw17_fixed.f k).bind fun t270 => (if t270 = true then (if t264 = t267 then (if (t265 != t268) = true then (trestlelaw17_UtflibOffsets.j0 k a0 a2 true) else (trestlelaw17_UtflibOffsets.j0 k a0 a2 (t266 != t269))) else (trestlelaw17_UtflibOffsets.j0 k a0 a2 true)) else (trestlelaw17_UtflibOffsets.j0 k a0 a2 true))) = some r := H
  have A5 := Aside0.mk A50
  clear A50
  have HC6 := Aside0.mk H
  clear H
  go_enter Tryd.func7, Tryd.ntmps7
  go_upto_region 3 with (first | ((with_reducible refine gate_callee (f := 34) rfl ?_); refine goesL_ (some 23) rfl rfl Tryd.func34 (by kernel_rfl) rfl #[.string a0, .int .i64 a1, .int .i64 a2] rfl (by (try simp only [List.map_toArray, List.map_cons, List.map_nil]); first | done | rfl | (simp only [List.length_drop, List.length_take]; rfl)) ?_; (with_reducible refine (utflib_Offset.calls k a0 a1 a2 t264 t265 t266 _ A4.out).mono ?_); rintro e w' ⟨rfl, ⟨nd, rfl⟩⟩; refine ⟨_, rfl, ?_⟩) | ((with_reducible refine gate_callee (f := 35) rfl ?_); refine goesL_ (some 31) rfl rfl Tryd.func35 (by kernel_rfl) rfl #[.string a0, .int .i64 a1, .int .i64 a2] rfl (by (try simp only [List.map_toArray, List.map_cons, List.map_nil]); first | done | rfl | (simp only [List.length_drop, List.length_take]; rfl)) ?_; (with_reducible refine (trestleref17_Offset.calls k a0 a1 a2 t267 t268 t269 _ A5.out).mono ?_); rintro e w' ⟨rfl, ⟨nd, rfl⟩⟩; refine ⟨_, rfl, ?_⟩))
  (try simp only [Act.put, List.setIfInBounds_toArray, List.set_cons_zero, List.set_cons_succ])
  go_cut [51] (fun v51 wc => ∃ (kq : Nat) (x51_5 : Bool), v51 = .bool x51_5 ∧ Aside0 (trestlelaw17_UtflibOffsets.j0 kq a0 a2 x51_5 = some r) ∧ Aside0 (kq ≤ k) ∧ Aside0 (Below w.heap.size w wc))
  case first =>
    have H := HC6.out
    clear HC6
    replace H := Option.bind_eq_some_iff.mp H
    obtain ⟨t270, A70, H⟩ := H
    replace H : (if t270 = true then (if t264 = t267 then (if (t265 != t268) = true then (trestlelaw17_UtflibOffsets.j0 k a0 a2 true) else (trestlelaw17_UtflibOffsets.j0 k a0 a2 (t266 != t269))) else (trestlelaw17_UtflibOffsets.j0 k a0 a2 true)) else (trestlelaw17_UtflibOffsets.j0 k a0 a2 true)) = some r := H
    have A7 := Aside0.mk A70
    clear A70
    by_cases c8 : t270 = true
    · subst c8
      have H1 : (if t264 = t267 then (if (t265 != t268) = true then (trestlelaw17_UtflibOffsets.j0 k a0 a2 true) else (trestlelaw17_UtflibOffsets.j0 k a0 a2 (t266 != t269))) else (trestlelaw17_UtflibOffsets.j0 k a0 a2 true)) = some r := by rw [if_pos rfl] at H; exact H
      clear H
      have H := H1
      clear H1
      by_cases c9 : t264 = t267
      · rw [if_pos c9] at H
        have c9b0 : (t264 == t267) = true := beq_iff_eq.mpr c9
        have c9b1 : (t264 != t267) = false := bne_eq_false_iff_eq.mpr c9
        clear c9
        (first | rw [c9b0] | (simp only [i64_w, i32_w]; rw [c9b0]) | skip)
        by_cases c10 : (t265 != t268) = true
        · rw [if_pos c10] at H
          have c10b0 : (t265 != t268) = true := c10
          (try (have c10b1 : decide (t265 = t268) = false := by simpa using c10))
          (try (have c10b2 : (t265 == t268) = false := by simpa using c10))
          (try (have c10b3 : ¬ (t265 = t268) := by simpa using c10))
          clear c10
          have H' := Aside0.mk H
          clear H
          go_wp2_with (first | ((with_reducible refine gate_callee (f := 32) rfl ?_); refine goesL_ (some 35) rfl rfl Tryd.func32 (by kernel_rfl) rfl #[] rfl (by (try simp only [List.map_toArray, List.map_cons, List.map_nil]); first | done | rfl | (simp only [List.length_drop, List.length_take]; rfl)) ?_; (with_reducible refine (trestlelaw17_fixed.calls k  true _ A7.out ?hT_).mono ?_); (case hT_ => exact tab_step HT_ (by repeat (first | (with_reducible first | exact HB.out | apply below_alloc | apply pw_below_drewN | apply below_drew1) | exact HB.out))); rintro e w11 ⟨rfl, hb⟩; refine ⟨_, rfl, ?_⟩; have n0_ := Aside0.mk (below_step (by repeat (first | (with_reducible first | exact HB.out | apply below_alloc | apply pw_below_drewN | apply below_drew1) | exact HB.out)) hb); clear HB; have HB := n0_; clear n0_; (try clear hb); (try clear hb2); (try clear hk); (try clear hi)))
          go_meet
          case rel => exact ⟨_, (true), (by first | rfl | (simp; done) | (simp [*]; done)), H', ⟨by first | omega | exact Nat.le_refl _⟩, ⟨by repeat (first | (with_reducible first | exact HB.out | apply below_alloc | apply pw_below_drewN | apply below_drew1) | exact HB.out)⟩⟩
        · rw [if_neg c10] at H
          have c10b0 : (t265 != t268) = false := by simpa using c10
          (try (have c10b1 : decide (t265 = t268) = true := by simpa using c10))
          (try (have c10b2 : (t265 == t268) = true := by simpa using c10))
          clear c10
          have H' := Aside0.mk H
          clear H
          go_wp2_with (first | ((with_reducible refine gate_callee (f := 32) rfl ?_); refine goesL_ (some 35) rfl rfl Tryd.func32 (by kernel_rfl) rfl #[] rfl (by (try simp only [List.map_toArray, List.map_cons, List.map_nil]); first | done | rfl | (simp only [List.length_drop, List.length_take]; rfl)) ?_; (with_reducible refine (trestlelaw17_fixed.calls k  true _ A7.out ?hT_).mono ?_); (case hT_ => exact tab_step HT_ (by repeat (first | (with_reducible first | exact HB.out | apply below_alloc | apply pw_below_drewN | apply below_drew1) | exact HB.out))); rintro e w12 ⟨rfl, hb⟩; refine ⟨_, rfl, ?_⟩; have n0_ := Aside0.mk (below_step (by repeat (first | (with_reducible first | exact HB.out | apply below_alloc | apply pw_below_drewN | apply below_drew1) | exact HB.out)) hb); clear HB; have HB := n0_; clear n0_; (try clear hb); (try clear hb2); (try clear hk); (try clear hi)))
          go_meet
          case rel => exact ⟨_, ((t266 != t269)), (by first | rfl | (simp; done) | (simp [*]; done)), H', ⟨by first | omega | exact Nat.le_refl _⟩, ⟨by repeat (first | (with_reducible first | exact HB.out | apply below_alloc | apply pw_below_drewN | apply below_drew1) | exact HB.out)⟩⟩
      · rw [if_neg c9] at H
        have c9b0 : (t264 == t267) = false := beq_eq_false_iff_ne.mpr c9
        have c9b1 : (t264 != t267) = true := bne_iff_ne.mpr c9
        (first | rw [c9b0] | (simp only [i64_w, i32_w]; rw [c9b0]) | skip)
        have H' := Aside0.mk H
        clear H
        go_wp2_with (first | ((with_reducible refine gate_callee (f := 32) rfl ?_); refine goesL_ (some 35) rfl rfl Tryd.func32 (by kernel_rfl) rfl #[] rfl (by (try simp only [List.map_toArray, List.map_cons, List.map_nil]); first | done | rfl | (simp only [List.length_drop, List.length_take]; rfl)) ?_; (with_reducible refine (trestlelaw17_fixed.calls k  true _ A7.out ?hT_).mono ?_); (case hT_ => exact tab_step HT_ (by repeat (first | (with_reducible first | exact HB.out | apply below_alloc | apply pw_below_drewN | apply below_drew1) | exact HB.out))); rintro e w13 ⟨rfl, hb⟩; refine ⟨_, rfl, ?_⟩; have n0_ := Aside0.mk (below_step (by repeat (first | (with_reducible first | exact HB.out | apply below_alloc | apply pw_below_drewN | apply below_drew1) | exact HB.out)) hb); clear HB; have HB := n0_; clear n0_; (try clear hb); (try clear hb2); (try clear hk); (try clear hi)))
        go_meet
        case rel => exact ⟨_, (true), (by first | rfl | (simp; done) | (simp [*]; done)), H', ⟨by first | omega | exact Nat.le_refl _⟩, ⟨by repeat (first | (with_reducible first | exact HB.out | apply below_alloc | apply pw_below_drewN | apply below_drew1) | exact HB.out)⟩⟩
    · replace c8 := Bool.eq_false_iff.mpr c8
      subst c8
      have H1 : (trestlelaw17_UtflibOffsets.j0 k a0 a2 true) = some r := by rw [if_neg (show ¬ (false = true) by decide)] at H; exact H
      clear H
      have H := H1
      clear H1
      have H' := Aside0.mk H
      clear H
      go_wp2_with (first | ((with_reducible refine gate_callee (f := 32) rfl ?_); refine goesL_ (some 35) rfl rfl Tryd.func32 (by kernel_rfl) rfl #[] rfl (by (try simp only [List.map_toArray, List.map_cons, List.map_nil]); first | done | rfl | (simp only [List.length_drop, List.length_take]; rfl)) ?_; (with_reducible refine (trestlelaw17_fixed.calls k  false _ A7.out ?hT_).mono ?_); (case hT_ => exact tab_step HT_ (by repeat (first | (with_reducible first | exact HB.out | apply below_alloc | apply pw_below_drewN | apply below_drew1) | exact HB.out))); rintro e w14 ⟨rfl, hb⟩; refine ⟨_, rfl, ?_⟩; have n0_ := Aside0.mk (below_step (by repeat (first | (with_reducible first | exact HB.out | apply below_alloc | apply pw_below_drewN | apply below_drew1) | exact HB.out)) hb); clear HB; have HB := n0_; clear n0_; (try clear hb); (try clear hb2); (try clear hk); (try clear hi)))
      go_meet
      case rel => exact ⟨_, (true), (by first | rfl | (simp; done) | (simp [*]; done)), H', ⟨by first | omega | exact Nat.le_refl _⟩, ⟨by repeat (first | (with_reducible first | exact HB.out | apply below_alloc | apply pw_below_drewN | apply below_drew1) | exact HB.out)⟩⟩
  case rest =>
    clear HC6
    try clear c1
    try clear p2
    try clear c3
    try clear c7
    try clear c8
    try clear c9
    try clear c9b0
    try clear c9b1
    try clear c10
    try clear c10b0
    try clear c10b1
    try clear c10b2
    obtain ⟨kq, x51_5, rfl, HA, HJ5, HB⟩ := hcut
    cases kq with
    | zero => exact absurd HA.out (by simp [trestlelaw17_UtflibOffsets.j0])
    | succ kj5 =>
      have H := HA.out
      clear HA
      simp only [trestlelaw17_UtflibOffsets.j0] at H
      by_cases c15 : x51_5 = true
      · subst c15
        have H1 : (some false) = some r := by rw [if_pos rfl] at H; exact H
        clear H
        have H := H1
        clear H1
        obtain rfl := Option.some.inj H
        go_wp2
        go_ret
        exact ⟨by first | rfl | (simp [errW_none, errW_some] <;> rfl) | (simp [*, errW_none, errW_some] <;> rfl), by repeat (first | (with_reducible first | exact HB.out | apply below_alloc | apply pw_below_drewN | apply below_drew1) | exact HB.out)⟩
      · replace c15 := Bool.eq_false_iff.mpr c15
        subst c15
        have H1 : ((utflib_Step.f kj5 a0 a2).bind fun bt271 => ((trestleref17_Step.f kj5 a0 a2).bind fun bt275 => (if bt271.1 = bt275.1 then (if bt271.2.1 = bt275.2.1 then (if (bt271.2.2.1 == bt275.2.2.1) = true then (some (bt271.2.2.2 == bt275.2.2.2)) else (some false)) else (some false)) else (some false)))) = some r := by rw [if_neg (show ¬ (false = true) by decide)] at H; exact H
        clear H
        have H := H1
        clear H1
        replace H := Option.bind_eq_some_iff.mp H
        obtain ⟨⟨t271, t272, t273, t274⟩, A160, H⟩ := H
        replace H : ((trestleref17_Step.f kj5 a0 a2).bind fun bt275 => (if t271 = bt275.1 then (if t272 = bt275.2.1 then (if (t273 == bt275.2.2.1) = true then (some (t274 == bt275.2.2.2)) else (some false)) else (some false)) else (some false))) = some r := H
        have A16 := Aside0.mk A160
        clear A160
        replace H := Option.bind_eq_some_iff.mp H
        obtain ⟨⟨t275, t276, t277, t278⟩, A170, H⟩ := H
        replace H : (if t271 = t275 then (if t272 = t276 then (if (t273 == t277) = true then (some (t274 == t278)) else (some false)) else (some false)) else (some false)) = some r := H
        have A17 := Aside0.mk A170
        clear A170
        by_cases c18 : t271 = t275
        · rw [if_pos c18] at H
          have c18b0 : (t271 == t275) = true := beq_iff_eq.mpr c18
          have c18b1 : (t271 != t275) = false := bne_eq_false_iff_eq.mpr c18
          clear c18
          by_cases c19 : t272 = t276
          · rw [if_pos c19] at H
            have c19b0 : (t272 == t276) = true := beq_iff_eq.mpr c19
            have c19b1 : (t272 != t276) = false := bne_eq_false_iff_eq.mpr c19
            clear c19
            by_cases c20 : (t273 == t277) = true
            · rw [if_pos c20] at H
              have c20b0 : (t273 == t277) = true := c20
              (try (have c20b1 : decide (t273 = t277) = true := by simpa using c20))
              (try (have c20b2 : (t273 == t277) = true := by simpa using c20))
              clear c20
              obtain rfl := Option.some.inj H
              go_wp2_with (first | ((with_reducible refine gate_callee (f := 36) rfl ?_); refine goesL_ (some 55) rfl rfl Tryd.func36 (by kernel_rfl) rfl #[.string a0, .int .i64 a2] rfl (by (try simp only [List.map_toArray, List.map_cons, List.map_nil]); first | done | rfl | (simp only [List.length_drop, List.length_take]; rfl)) ?_; (with_reducible refine (utflib_Step.calls kj5 a0 a2 t271 t272 t273 t274 _ A16.out ?hT_).mono ?_); (case hT_ => exact tab_step HT_ (by repeat (first | (with_reducible first | exact HB.out | apply below_alloc | apply pw_below_drewN | apply below_drew1) | exact HB.out))); rintro e w21 ⟨rfl, hb⟩; refine ⟨_, rfl, ?_⟩; have n0_ := Aside0.mk (below_step (by repeat (first | (with_reducible first | exact HB.out | apply below_alloc | apply pw_below_drewN | apply below_drew1) | exact HB.out)) hb); clear HB; have HB := n0_; clear n0_; (try clear hb); (try clear hb2); (try clear hk); (try clear hi)) | ((with_reducible refine gate_callee (f := 37) rfl ?_); refine goesL_ (some 63) rfl rfl Tryd.func37 (by kernel_rfl) rfl #[.string a0, .int .i64 a2] rfl (by (try simp only [List.map_toArray, List.map_cons, List.map_nil]); first | done | rfl | (simp only [List.length_drop, List.length_take]; rfl)) ?_; (with_reducible refine (trestleref17_Step.calls kj5 a0 a2 t275 t276 t277 t278 _ A17.out).mono ?_); rintro e w22 ⟨rfl, hb⟩; refine ⟨_, rfl, ?_⟩; have n0_ := Aside0.mk (below_step (by repeat (first | (with_reducible first | exact HB.out | apply below_alloc | apply pw_below_drewN | apply below_drew1) | exact HB.out)) hb); clear HB; have HB := n0_; clear n0_; (try clear hb); (try clear hb2); (try clear hk); (try clear hi)))
              go_ret
              exact ⟨by first | rfl | (simp [errW_none, errW_some] <;> rfl) | (simp [*, errW_none, errW_some] <;> rfl), by repeat (first | (with_reducible first | exact HB.out | apply below_alloc | apply pw_below_drewN | apply below_drew1) | exact HB.out)⟩
            · rw [if_neg c20] at H
              have c20b0 : (t273 == t277) = false := by simpa using c20
              (try (have c20b1 : decide (t273 = t277) = false := by simpa using c20))
              (try (have c20b2 : (t273 == t277) = false := by simpa using c20))
              (try (have c20b3 : ¬ (t273 = t277) := by simpa using c20))
              clear c20
              obtain rfl := Option.some.inj H
              go_wp2_with (first | ((with_reducible refine gate_callee (f := 36) rfl ?_); refine goesL_ (some 55) rfl rfl Tryd.func36 (by kernel_rfl) rfl #[.string a0, .int .i64 a2] rfl (by (try simp only [List.map_toArray, List.map_cons, List.map_nil]); first | done | rfl | (simp only [List.length_drop, List.length_take]; rfl)) ?_; (with_reducible refine (utflib_Step.calls kj5 a0 a2 t271 t272 t273 t274 _ A16.out ?hT_).mono ?_); (case hT_ => exact tab_step HT_ (by repeat (first | (with_reducible first | exact HB.out | apply below_alloc | apply pw_below_drewN | apply below_drew1) | exact HB.out))); rintro e w23 ⟨rfl, hb⟩; refine ⟨_, rfl, ?_⟩; have n0_ := Aside0.mk (below_step (by repeat (first | (with_reducible first | exact HB.out | apply below_alloc | apply pw_below_drewN | apply below_drew1) | exact HB.out)) hb); clear HB; have HB := n0_; clear n0_; (try clear hb); (try clear hb2); (try clear hk); (try clear hi)) | ((with_reducible refine gate_callee (f := 37) rfl ?_); refine goesL_ (some 63) rfl rfl Tryd.func37 (by kernel_rfl) rfl #[.string a0, .int .i64 a2] rfl (by (try simp only [List.map_toArray, List.map_cons, List.map_nil]); first | done | rfl | (simp only [List.length_drop, List.length_take]; rfl)) ?_; (with_reducible refine (trestleref17_Step.calls kj5 a0 a2 t275 t276 t277 t278 _ A17.out).mono ?_); rintro e w24 ⟨rfl, hb⟩; refine ⟨_, rfl, ?_⟩; have n0_ := Aside0.mk (below_step (by repeat (first | (with_reducible first | exact HB.out | apply below_alloc | apply pw_below_drewN | apply below_drew1) | exact HB.out)) hb); clear HB; have HB := n0_; clear n0_; (try clear hb); (try clear hb2); (try clear hk); (try clear hi)))
              go_ret
              exact ⟨by first | rfl | (simp [errW_none, errW_some] <;> rfl) | (simp [*, errW_none, errW_some] <;> rfl), by repeat (first | (with_reducible first | exact HB.out | apply below_alloc | apply pw_below_drewN | apply below_drew1) | exact HB.out)⟩
          · rw [if_neg c19] at H
            have c19b0 : (t272 == t276) = false := beq_eq_false_iff_ne.mpr c19
            have c19b1 : (t272 != t276) = true := bne_iff_ne.mpr c19
            obtain rfl := Option.some.inj H
            go_wp2_with (first | ((with_reducible refine gate_callee (f := 36) rfl ?_); refine goesL_ (some 55) rfl rfl Tryd.func36 (by kernel_rfl) rfl #[.string a0, .int .i64 a2] rfl (by (try simp only [List.map_toArray, List.map_cons, List.map_nil]); first | done | rfl | (simp only [List.length_drop, List.length_take]; rfl)) ?_; (with_reducible refine (utflib_Step.calls kj5 a0 a2 t271 t272 t273 t274 _ A16.out ?hT_).mono ?_); (case hT_ => exact tab_step HT_ (by repeat (first | (with_reducible first | exact HB.out | apply below_alloc | apply pw_below_drewN | apply below_drew1) | exact HB.out))); rintro e w25 ⟨rfl, hb⟩; refine ⟨_, rfl, ?_⟩; have n0_ := Aside0.mk (below_step (by repeat (first | (with_reducible first | exact HB.out | apply below_alloc | apply pw_below_drewN | apply below_drew1) | exact HB.out)) hb); clear HB; have HB := n0_; clear n0_; (try clear hb); (try clear hb2); (try clear hk); (try clear hi)) | ((with_reducible refine gate_callee (f := 37) rfl ?_); refine goesL_ (some 63) rfl rfl Tryd.func37 (by kernel_rfl) rfl #[.string a0, .int .i64 a2] rfl (by (try simp only [List.map_toArray, List.map_cons, List.map_nil]); first | done | rfl | (simp only [List.length_drop, List.length_take]; rfl)) ?_; (with_reducible refine (trestleref17_Step.calls kj5 a0 a2 t275 t276 t277 t278 _ A17.out).mono ?_); rintro e w26 ⟨rfl, hb⟩; refine ⟨_, rfl, ?_⟩; have n0_ := Aside0.mk (below_step (by repeat (first | (with_reducible first | exact HB.out | apply below_alloc | apply pw_below_drewN | apply below_drew1) | exact HB.out)) hb); clear HB; have HB := n0_; clear n0_; (try clear hb); (try clear hb2); (try clear hk); (try clear hi)))
            go_ret
            exact ⟨by first | rfl | (simp [errW_none, errW_some] <;> rfl) | (simp [*, errW_none, errW_some] <;> rfl), by repeat (first | (with_reducible first | exact HB.out | apply below_alloc | apply pw_below_drewN | apply below_drew1) | exact HB.out)⟩
        · rw [if_neg c18] at H
          have c18b0 : (t271 == t275) = false := beq_eq_false_iff_ne.mpr c18
          have c18b1 : (t271 != t275) = true := bne_iff_ne.mpr c18
          obtain rfl := Option.some.inj H
          go_wp2_with (first | ((with_reducible refine gate_callee (f := 36) rfl ?_); refine goesL_ (some 55) rfl rfl Tryd.func36 (by kernel_rfl) rfl #[.string a0, .int .i64 a2] rfl (by (try simp only [List.map_toArray, List.map_cons, List.map_nil]); first | done | rfl | (simp only [List.length_drop, List.length_take]; rfl)) ?_; (with_reducible refine (utflib_Step.calls kj5 a0 a2 t271 t272 t273 t274 _ A16.out ?hT_).mono ?_); (case hT_ => exact tab_step HT_ (by repeat (first | (with_reducible first | exact HB.out | apply below_alloc | apply pw_below_drewN | apply below_drew1) | exact HB.out))); rintro e w27 ⟨rfl, hb⟩; refine ⟨_, rfl, ?_⟩; have n0_ := Aside0.mk (below_step (by repeat (first | (with_reducible first | exact HB.out | apply below_alloc | apply pw_below_drewN | apply below_drew1) | exact HB.out)) hb); clear HB; have HB := n0_; clear n0_; (try clear hb); (try clear hb2); (try clear hk); (try clear hi)) | ((with_reducible refine gate_callee (f := 37) rfl ?_); refine goesL_ (some 63) rfl rfl Tryd.func37 (by kernel_rfl) rfl #[.string a0, .int .i64 a2] rfl (by (try simp only [List.map_toArray, List.map_cons, List.map_nil]); first | done | rfl | (simp only [List.length_drop, List.length_take]; rfl)) ?_; (with_reducible refine (trestleref17_Step.calls kj5 a0 a2 t275 t276 t277 t278 _ A17.out).mono ?_); rintro e w28 ⟨rfl, hb⟩; refine ⟨_, rfl, ?_⟩; have n0_ := Aside0.mk (below_step (by repeat (first | (with_reducible first | exact HB.out | apply below_alloc | apply pw_below_drewN | apply below_drew1) | exact HB.out)) hb); clear HB; have HB := n0_; clear n0_; (try clear hb); (try clear hb2); (try clear hk); (try clear hi)))
          go_ret
          exact ⟨by first | rfl | (simp [errW_none, errW_some] <;> rfl) | (simp [*, errW_none, errW_some] <;> rfl), by repeat (first | (with_reducible first | exact HB.out | apply below_alloc | apply pw_below_drewN | apply below_drew1) | exact HB.out)⟩

/-- THE ONE PURE STATEMENT of trestlelaw17_UtflibOffsets: yours. -/
def trestlelaw17_UtflibOffsets.Pure : Prop := ∀ (a0 : ByteArray) (a1 : Int) (a2 : Int), a0.size ≤ 140737488351232 → (Lit.int .i64 a1).wf = true → (Lit.int .i64 a2).wf = true → ∃ k, trestlelaw17_UtflibOffsets.f k a0 a1 a2 = some true
theorem trestlelaw17_UtflibOffsets.walk (P : trestlelaw17_UtflibOffsets.Pure) (a0 : ByteArray) (a1 : Int) (a2 : Int) (w : World) (w0 : a0.size ≤ 140737488351232) (w1 : (Lit.int .i64 a1).wf = true) (w2 : (Lit.int .i64 a2).wf = true) (HT_ : RowKit.Hid (Lib.Utf8Tabs 0 1 w)) :
    Calls Tryd.prog 7 #[.string a0, .int .i64 a1, .int .i64 a2] w fun e w' => e = .returned (.bool true) ∧ Below w.heap.size w w' := by
  obtain ⟨k, h⟩ := P a0 a1 a2 w0 w1 w2
  refine (trestlelaw17_UtflibOffsets.calls k a0 a1 a2 true w h HT_).mono ?_
  rintro e w' ⟨rfl, hd⟩
  exact ⟨rfl, hd⟩

end Go.Proofs.YtlmmhlabacghnaaDoor.PR
