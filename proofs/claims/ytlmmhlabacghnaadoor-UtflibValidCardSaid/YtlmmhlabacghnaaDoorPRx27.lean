-- Written by a program of this session's (the kit's print, turned), out of the translation.
import Derived.Test.YtlmmhlabacghnaaDoorPRx0
import Derived.Test.YtlmmhlabacghnaaDoorPRx13
import Derived.Test.YtlmmhlabacghnaaDoorPRx16
import Derived.Test.YtlmmhlabacghnaaDoorPRx7
import Derived.Test.YtlmmhlabacghnaaDoorList
import Derived.Test.YtlmmhlabacghnaaDoorPlace
import Derived.Test.YtlmmhlabacghnaaDoorUChar
import Derived.Test.YtlmmhlabacghnaaDoorUSpan
import Derived.Test.YtlmmhlabacghnaaDoorDec
namespace Go.Proofs.YtlmmhlabacghnaaDoor.PR
open Go.RowKit Go.Proofs.YtlmmhlabacghnaaDoorW.PrintWords Go.Proofs.YtlmmhlabacghnaaDoorW.PrintLast Go.Proofs.YtlmmhlabacghnaaDoorW.PrintMore
attribute [local go_sem] max2_int min2_int max_two min_two max_three min_three max_four min_four   -- for this text's walks alone
set_option linter.unusedVariables false
set_option linter.unusedSimpArgs false

/-! ### trestlelaw17_UtflibValid: function 12 -/
mutual
def trestlelaw17_UtflibValid.j0 : Nat → ByteArray → Option (Bool)
  | 0, _ => none
  | k + 1, x0 => (trestleref01_Bad.f k x0).bind fun t369 => (if t369 ≥ 0 then (if 0 ≤ t369 then (if t369 ≤ (x0.size : Int) then (trestlelaw17_UtflibValid.j1 k (x0.extract 0 (t369 : Int).toNat)) else (none)) else (none)) else (trestlelaw17_UtflibValid.j1 k x0))
def trestlelaw17_UtflibValid.j1 : Nat → ByteArray → Option (Bool)
  | 0, _ => none
  | k + 1, x0 => (utflib_Len.f x0 1 (-1)).bind fun bt370 => (if (x0.size : Int) = 0 then ((utflib_Len.f x0 1 0).bind fun bt373 => (trestlelaw17_UtflibValid.j2 k x0 bt373.1 bt373.2.1 bt373.2.2)) else (trestlelaw17_UtflibValid.j2 k x0 bt370.1 bt370.2.1 bt370.2.2))
def trestlelaw17_UtflibValid.j2 : Nat → ByteArray → Int → Int → Int → Option (Bool)
  | 0, _, _, _, _ => none
  | k + 1, x0, x4, x5, x6 => (runes_List.f x0).bind fun t376 => (if x6 = 0 then (if x5 = 0 then ((runes_Count.f x0).bind fun t379 => (if x4 = t379 then (trestlelaw17_UtflibValid.j3 k x0 t376 (x4 != (t376.length : Int))) else (trestlelaw17_UtflibValid.j3 k x0 t376 true))) else (trestlelaw17_UtflibValid.j3 k x0 t376 true)) else (trestlelaw17_UtflibValid.j3 k x0 t376 true))
def trestlelaw17_UtflibValid.j3 : Nat → ByteArray → List (S28) → Bool → Option (Bool)
  | 0, _, _, _ => none
  | k + 1, x0, x7, x68 => if x68 = true then (some false) else (trestlelaw17_UtflibValid.l0 k x0 x7 0 0)
def trestlelaw17_UtflibValid.j7 : Nat → ByteArray → List (S28) → Option (Bool)
  | 0, _, _ => none
  | k + 1, x0, x7 => if (x7.length : Int) > 200 then ((utflib_Codes.f x0 1 (x0.size : Int)).bind fun bt392 => (some (bt392.2 == 14))) else ((utflib_Codes.f x0 1 (x0.size : Int)).bind fun bt396 => ((utflib_Char.f bt396.1).bind fun bt400 => (if bt396.2 = 0 then (if bt400.2 = 0 then (some (bt400.1.toList == x0.toList)) else (some false)) else (some false))))
def trestlelaw17_UtflibValid.l0 : Nat → ByteArray → List (S28) → Int → Int → Option (Bool)
  | 0, _, _, _, _ => none
  | k + 1, x0, x7, x8, x9 => if x9 ≤ (x7.length : Int) then ((utflib_Offset.f k x0 (wrap64 (x9 + 1)) 1).bind fun bt380 => ((utflib_Step.f k x0 x8).bind fun bt383 => (if bt380.2.1 = true then (if bt380.2.2 = 0 then (if bt383.2.2.2 = 0 then (trestlelaw17_UtflibValid.j5 k x0 x7 x9 bt380.1 bt383.1 bt383.2.1 (bt383.2.2.1 != (decide (x9 < (x7.length : Int))))) else (trestlelaw17_UtflibValid.j5 k x0 x7 x9 bt380.1 bt383.1 bt383.2.1 true)) else (trestlelaw17_UtflibValid.j5 k x0 x7 x9 bt380.1 bt383.1 bt383.2.1 true)) else (trestlelaw17_UtflibValid.j5 k x0 x7 x9 bt380.1 bt383.1 bt383.2.1 true)))) else (trestlelaw17_UtflibValid.j7 k x0 x7)
def trestlelaw17_UtflibValid.j5 : Nat → ByteArray → List (S28) → Int → Int → Int → Int → Bool → Option (Bool)
  | 0, _, _, _, _, _, _, _ => none
  | k + 1, x0, x7, x9, x10, x13, x14, x108 => if x108 = true then (some false) else (if x9 = (x7.length : Int) then ((utflib_Offset.f k x0 (wrap64 (x9 + 2)) 1).bind fun bt387 => (if x10 = (wrap64 ((x0.size : Int) + 1)) then (if bt387.2.1 = true then (trestlelaw17_UtflibValid.j6 k x0 x7 true) else (trestlelaw17_UtflibValid.j6 k x0 x7 (bt387.2.2 != 0))) else (trestlelaw17_UtflibValid.j6 k x0 x7 true))) else (if 0 ≤ x9 then (if x9 < (x7.length : Int) then (if x10 = (wrap64 (((rd_T28 x7 x9).f0) + 1)) then (if x13 = x10 then (if x14 = ((rd_T28 x7 x9).f2) then (trestlelaw17_UtflibValid.l0 k x0 x7 x13 (wrap64 (x9 + 1))) else (some false)) else (some false)) else (some false)) else (none)) else (none)))
def trestlelaw17_UtflibValid.j6 : Nat → ByteArray → List (S28) → Bool → Option (Bool)
  | 0, _, _, _ => none
  | k + 1, x0, x7, x132 => if x132 = true then (some false) else (trestlelaw17_UtflibValid.j7 k x0 x7)
end
def trestlelaw17_UtflibValid.f (k : Nat) (a0 : ByteArray) : Option (Bool) := (trestlelaw17_fixed.f k).bind fun t368 => (if t368 = true then (if (a0.size : Int) > 300 then (if 0 ≤ 300 then (if 300 ≤ (a0.size : Int) then (trestlelaw17_UtflibValid.j0 k (a0.extract 0 300)) else (none)) else (none)) else (trestlelaw17_UtflibValid.j0 k a0)) else (some false))
theorem trestlelaw17_UtflibValid.mono_l : ∀ k, (∀ y0, LeO (trestlelaw17_UtflibValid.j0 k y0) (trestlelaw17_UtflibValid.j0 (k + 1) y0)) ∧ (∀ y0, LeO (trestlelaw17_UtflibValid.j1 k y0) (trestlelaw17_UtflibValid.j1 (k + 1) y0)) ∧ (∀ y0 y1 y2 y3, LeO (trestlelaw17_UtflibValid.j2 k y0 y1 y2 y3) (trestlelaw17_UtflibValid.j2 (k + 1) y0 y1 y2 y3)) ∧ (∀ y0 y1 y2, LeO (trestlelaw17_UtflibValid.j3 k y0 y1 y2) (trestlelaw17_UtflibValid.j3 (k + 1) y0 y1 y2)) ∧ (∀ y0 y1, LeO (trestlelaw17_UtflibValid.j7 k y0 y1) (trestlelaw17_UtflibValid.j7 (k + 1) y0 y1)) ∧ (∀ y0 y1 y2 y3, LeO (trestlelaw17_UtflibValid.l0 k y0 y1 y2 y3) (trestlelaw17_UtflibValid.l0 (k + 1) y0 y1 y2 y3)) ∧ (∀ y0 y1 y2 y3 y4 y5 y6, LeO (trestlelaw17_UtflibValid.j5 k y0 y1 y2 y3 y4 y5 y6) (trestlelaw17_UtflibValid.j5 (k + 1) y0 y1 y2 y3 y4 y5 y6)) ∧ (∀ y0 y1 y2, LeO (trestlelaw17_UtflibValid.j6 k y0 y1 y2) (trestlelaw17_UtflibValid.j6 (k + 1) y0 y1 y2))
  | 0 => ⟨fun _ r h => by simp [trestlelaw17_UtflibValid.j0] at h, fun _ r h => by simp [trestlelaw17_UtflibValid.j1] at h, fun _ _ _ _ r h => by simp [trestlelaw17_UtflibValid.j2] at h, fun _ _ _ r h => by simp [trestlelaw17_UtflibValid.j3] at h, fun _ _ r h => by simp [trestlelaw17_UtflibValid.j7] at h, fun _ _ _ _ r h => by simp [trestlelaw17_UtflibValid.l0] at h, fun _ _ _ _ _ _ _ r h => by simp [trestlelaw17_UtflibValid.j5] at h, fun _ _ _ r h => by simp [trestlelaw17_UtflibValid.j6] at h⟩
  | k + 1 => by
    obtain ⟨ih0, ih1, ih2, ih3, ih4, ih5, ih6, ih7⟩ := trestlelaw17_UtflibValid.mono_l k
    refine ⟨?_, ?_, ?_, ?_, ?_, ?_, ?_, ?_⟩
    · intro y0
      unfold trestlelaw17_UtflibValid.j0
      repeat' first
      | (with_reducible exact ih0 _)
      | (with_reducible exact ih1 _)
      | (with_reducible exact ih2 _ _ _ _)
      | (with_reducible exact ih3 _ _ _)
      | (with_reducible exact ih4 _ _)
      | (with_reducible exact ih5 _ _ _ _)
      | (with_reducible exact ih6 _ _ _ _ _ _ _)
      | (with_reducible exact ih7 _ _ _)
      | (with_reducible exact trestlelaw17_fixed.mono _)
      | (with_reducible exact trestleref01_Bad.mono _ _)
      | (with_reducible exact utflib_Offset.mono _ _ _ _)
      | (with_reducible exact utflib_Step.mono _ _ _)
      | (with_reducible exact LeO.refl _)
      | (with_reducible exact LeO.none _)
      | (with_reducible refine LeO.ite ?_ ?_)
      | (with_reducible refine LeO.bind ?_ (fun _ => ?_))
      | exact ih0 _
      | exact ih1 _
      | exact ih2 _ _ _ _
      | exact ih3 _ _ _
      | exact ih4 _ _
      | exact ih5 _ _ _ _
      | exact ih6 _ _ _ _ _ _ _
      | exact ih7 _ _ _
      | exact trestlelaw17_fixed.mono _
      | exact trestleref01_Bad.mono _ _
      | exact utflib_Offset.mono _ _ _ _
      | exact utflib_Step.mono _ _ _
      | exact LeO.none _
      | refine LeO.ite ?_ ?_
      | refine LeO.bind ?_ (fun _ => ?_)
    · intro y0
      unfold trestlelaw17_UtflibValid.j1
      repeat' first
      | (with_reducible exact ih0 _)
      | (with_reducible exact ih1 _)
      | (with_reducible exact ih2 _ _ _ _)
      | (with_reducible exact ih3 _ _ _)
      | (with_reducible exact ih4 _ _)
      | (with_reducible exact ih5 _ _ _ _)
      | (with_reducible exact ih6 _ _ _ _ _ _ _)
      | (with_reducible exact ih7 _ _ _)
      | (with_reducible exact trestlelaw17_fixed.mono _)
      | (with_reducible exact trestleref01_Bad.mono _ _)
      | (with_reducible exact utflib_Offset.mono _ _ _ _)
      | (with_reducible exact utflib_Step.mono _ _ _)
      | (with_reducible exact LeO.refl _)
      | (with_reducible exact LeO.none _)
      | (with_reducible refine LeO.ite ?_ ?_)
      | (with_reducible refine LeO.bind ?_ (fun _ => ?_))
      | exact ih0 _
      | exact ih1 _
      | exact ih2 _ _ _ _
      | exact ih3 _ _ _
      | exact ih4 _ _
      | exact ih5 _ _ _ _
      | exact ih6 _ _ _ _ _ _ _
      | exact ih7 _ _ _
      | exact trestlelaw17_fixed.mono _
      | exact trestleref01_Bad.mono _ _
      | exact utflib_Offset.mono _ _ _ _
      | exact utflib_Step.mono _ _ _
      | exact LeO.none _
      | refine LeO.ite ?_ ?_
      | refine LeO.bind ?_ (fun _ => ?_)
    · intro y0 y1 y2 y3
      unfold trestlelaw17_UtflibValid.j2
      repeat' first
      | (with_reducible exact ih0 _)
      | (with_reducible exact ih1 _)
      | (with_reducible exact ih2 _ _ _ _)
      | (with_reducible exact ih3 _ _ _)
      | (with_reducible exact ih4 _ _)
      | (with_reducible exact ih5 _ _ _ _)
      | (with_reducible exact ih6 _ _ _ _ _ _ _)
      | (with_reducible exact ih7 _ _ _)
      | (with_reducible exact trestlelaw17_fixed.mono _)
      | (with_reducible exact trestleref01_Bad.mono _ _)
      | (with_reducible exact utflib_Offset.mono _ _ _ _)
      | (with_reducible exact utflib_Step.mono _ _ _)
      | (with_reducible exact LeO.refl _)
      | (with_reducible exact LeO.none _)
      | (with_reducible refine LeO.ite ?_ ?_)
      | (with_reducible refine LeO.bind ?_ (fun _ => ?_))
      | exact ih0 _
      | exact ih1 _
      | exact ih2 _ _ _ _
      | exact ih3 _ _ _
      | exact ih4 _ _
      | exact ih5 _ _ _ _
      | exact ih6 _ _ _ _ _ _ _
      | exact ih7 _ _ _
      | exact trestlelaw17_fixed.mono _
      | exact trestleref01_Bad.mono _ _
      | exact utflib_Offset.mono _ _ _ _
      | exact utflib_Step.mono _ _ _
      | exact LeO.none _
      | refine LeO.ite ?_ ?_
      | refine LeO.bind ?_ (fun _ => ?_)
    · intro y0 y1 y2
      unfold trestlelaw17_UtflibValid.j3
      repeat' first
      | (with_reducible exact ih0 _)
      | (with_reducible exact ih1 _)
      | (with_reducible exact ih2 _ _ _ _)
      | (with_reducible exact ih3 _ _ _)
      | (with_reducible exact ih4 _ _)
      | (with_reducible exact ih5 _ _ _ _)
      | (with_reducible exact ih6 _ _ _ _ _ _ _)
      | (with_reducible exact ih7 _ _ _)
      | (with_reducible exact trestlelaw17_fixed.mono _)
      | (with_reducible exact trestleref01_Bad.mono _ _)
      | (with_reducible exact utflib_Offset.mono _ _ _ _)
      | (with_reducible exact utflib_Step.mono _ _ _)
      | (with_reducible exact LeO.refl _)
      | (with_reducible exact LeO.none _)
      | (with_reducible refine LeO.ite ?_ ?_)
      | (with_reducible refine LeO.bind ?_ (fun _ => ?_))
      | exact ih0 _
      | exact ih1 _
      | exact ih2 _ _ _ _
      | exact ih3 _ _ _
      | exact ih4 _ _
      | exact ih5 _ _ _ _
      | exact ih6 _ _ _ _ _ _ _
      | exact ih7 _ _ _
      | exact trestlelaw17_fixed.mono _
      | exact trestleref01_Bad.mono _ _
      | exact utflib_Offset.mono _ _ _ _
      | exact utflib_Step.mono _ _ _
      | exact LeO.none _
      | refine LeO.ite ?_ ?_
      | refine LeO.bind ?_ (fun _ => ?_)
    · intro y0 y1
      unfold trestlelaw17_UtflibValid.j7
      repeat' first
      | (with_reducible exact ih0 _)
      | (with_reducible exact ih1 _)
      | (with_reducible exact ih2 _ _ _ _)
      | (with_reducible exact ih3 _ _ _)
      | (with_reducible exact ih4 _ _)
      | (with_reducible exact ih5 _ _ _ _)
      | (with_reducible exact ih6 _ _ _ _ _ _ _)
      | (with_reducible exact ih7 _ _ _)
      | (with_reducible exact trestlelaw17_fixed.mono _)
      | (with_reducible exact trestleref01_Bad.mono _ _)
      | (with_reducible exact utflib_Offset.mono _ _ _ _)
      | (with_reducible exact utflib_Step.mono _ _ _)
      | (with_reducible exact LeO.refl _)
      | (with_reducible exact LeO.none _)
      | (with_reducible refine LeO.ite ?_ ?_)
      | (with_reducible refine LeO.bind ?_ (fun _ => ?_))
      | exact ih0 _
      | exact ih1 _
      | exact ih2 _ _ _ _
      | exact ih3 _ _ _
      | exact ih4 _ _
      | exact ih5 _ _ _ _
      | exact ih6 _ _ _ _ _ _ _
      | exact ih7 _ _ _
      | exact trestlelaw17_fixed.mono _
      | exact trestleref01_Bad.mono _ _
      | exact utflib_Offset.mono _ _ _ _
      | exact utflib_Step.mono _ _ _
      | exact LeO.none _
      | refine LeO.ite ?_ ?_
      | refine LeO.bind ?_ (fun _ => ?_)
    · intro y0 y1 y2 y3
      unfold trestlelaw17_UtflibValid.l0
      repeat' first
      | (with_reducible exact ih0 _)
      | (with_reducible exact ih1 _)
      | (with_reducible exact ih2 _ _ _ _)
      | (with_reducible exact ih3 _ _ _)
      | (with_reducible exact ih4 _ _)
      | (with_reducible exact ih5 _ _ _ _)
      | (with_reducible exact ih6 _ _ _ _ _ _ _)
      | (with_reducible exact ih7 _ _ _)
      | (with_reducible exact trestlelaw17_fixed.mono _)
      | (with_reducible exact trestleref01_Bad.mono _ _)
      | (with_reducible exact utflib_Offset.mono _ _ _ _)
      | (with_reducible exact utflib_Step.mono _ _ _)
      | (with_reducible exact LeO.refl _)
      | (with_reducible exact LeO.none _)
      | (with_reducible refine LeO.ite ?_ ?_)
      | (with_reducible refine LeO.bind ?_ (fun _ => ?_))
      | exact ih0 _
      | exact ih1 _
      | exact ih2 _ _ _ _
      | exact ih3 _ _ _
      | exact ih4 _ _
      | exact ih5 _ _ _ _
      | exact ih6 _ _ _ _ _ _ _
      | exact ih7 _ _ _
      | exact trestlelaw17_fixed.mono _
      | exact trestleref01_Bad.mono _ _
      | exact utflib_Offset.mono _ _ _ _
      | exact utflib_Step.mono _ _ _
      | exact LeO.none _
      | refine LeO.ite ?_ ?_
      | refine LeO.bind ?_ (fun _ => ?_)
    · intro y0 y1 y2 y3 y4 y5 y6
      unfold trestlelaw17_UtflibValid.j5
      repeat' first
      | (with_reducible exact ih0 _)
      | (with_reducible exact ih1 _)
      | (with_reducible exact ih2 _ _ _ _)
      | (with_reducible exact ih3 _ _ _)
      | (with_reducible exact ih4 _ _)
      | (with_reducible exact ih5 _ _ _ _)
      | (with_reducible exact ih6 _ _ _ _ _ _ _)
      | (with_reducible exact ih7 _ _ _)
      | (with_reducible exact trestlelaw17_fixed.mono _)
      | (with_reducible exact trestleref01_Bad.mono _ _)
      | (with_reducible exact utflib_Offset.mono _ _ _ _)
      | (with_reducible exact utflib_Step.mono _ _ _)
      | (with_reducible exact LeO.refl _)
      | (with_reducible exact LeO.none _)
      | (with_reducible refine LeO.ite ?_ ?_)
      | (with_reducible refine LeO.bind ?_ (fun _ => ?_))
      | exact ih0 _
      | exact ih1 _
      | exact ih2 _ _ _ _
      | exact ih3 _ _ _
      | exact ih4 _ _
      | exact ih5 _ _ _ _
      | exact ih6 _ _ _ _ _ _ _
      | exact ih7 _ _ _
      | exact trestlelaw17_fixed.mono _
      | exact trestleref01_Bad.mono _ _
      | exact utflib_Offset.mono _ _ _ _
      | exact utflib_Step.mono _ _ _
      | exact LeO.none _
      | refine LeO.ite ?_ ?_
      | refine LeO.bind ?_ (fun _ => ?_)
    · intro y0 y1 y2
      unfold trestlelaw17_UtflibValid.j6
      repeat' first
      | (with_reducible exact ih0 _)
      | (with_reducible exact ih1 _)
      | (with_reducible exact ih2 _ _ _ _)
      | (with_reducible exact ih3 _ _ _)
      | (with_reducible exact ih4 _ _)
      | (with_reducible exact ih5 _ _ _ _)
      | (with_reducible exact ih6 _ _ _ _ _ _ _)
      | (with_reducible exact ih7 _ _ _)
      | (with_reducible exact trestlelaw17_fixed.mono _)
      | (with_reducible exact trestleref01_Bad.mono _ _)
      | (with_reducible exact utflib_Offset.mono _ _ _ _)
      | (with_reducible exact utflib_Step.mono _ _ _)
      | (with_reducible exact LeO.refl _)
      | (with_reducible exact LeO.none _)
      | (with_reducible refine LeO.ite ?_ ?_)
      | (with_reducible refine LeO.bind ?_ (fun _ => ?_))
      | exact ih0 _
      | exact ih1 _
      | exact ih2 _ _ _ _
      | exact ih3 _ _ _
      | exact ih4 _ _
      | exact ih5 _ _ _ _
      | exact ih6 _ _ _ _ _ _ _
      | exact ih7 _ _ _
      | exact trestlelaw17_fixed.mono _
      | exact trestleref01_Bad.mono _ _
      | exact utflib_Offset.mono _ _ _ _
      | exact utflib_Step.mono _ _ _
      | exact LeO.none _
      | refine LeO.ite ?_ ?_
      | refine LeO.bind ?_ (fun _ => ?_)
theorem trestlelaw17_UtflibValid.mono : ∀ a0 k, LeO (trestlelaw17_UtflibValid.f k a0) (trestlelaw17_UtflibValid.f (k + 1) a0) := by
  intro a0 k
  obtain ⟨ih0, ih1, ih2, ih3, ih4, ih5, ih6, ih7⟩ := trestlelaw17_UtflibValid.mono_l k
  unfold trestlelaw17_UtflibValid.f
  repeat' first
      | (with_reducible exact ih0 _)
      | (with_reducible exact ih1 _)
      | (with_reducible exact ih2 _ _ _ _)
      | (with_reducible exact ih3 _ _ _)
      | (with_reducible exact ih4 _ _)
      | (with_reducible exact ih5 _ _ _ _)
      | (with_reducible exact ih6 _ _ _ _ _ _ _)
      | (with_reducible exact ih7 _ _ _)
      | (with_reducible exact trestlelaw17_fixed.mono _)
      | (with_reducible exact trestleref01_Bad.mono _ _)
      | (with_reducible exact utflib_Offset.mono _ _ _ _)
      | (with_reducible exact utflib_Step.mono _ _ _)
      | (with_reducible exact LeO.refl _)
      | (with_reducible exact LeO.none _)
      | (with_reducible refine LeO.ite ?_ ?_)
      | (with_reducible refine LeO.bind ?_ (fun _ => ?_))
      | exact ih0 _
      | exact ih1 _
      | exact ih2 _ _ _ _
      | exact ih3 _ _ _
      | exact ih4 _ _
      | exact ih5 _ _ _ _
      | exact ih6 _ _ _ _ _ _ _
      | exact ih7 _ _ _
      | exact trestlelaw17_fixed.mono _
      | exact trestleref01_Bad.mono _ _
      | exact utflib_Offset.mono _ _ _ _
      | exact utflib_Step.mono _ _ _
      | exact LeO.none _
      | refine LeO.ite ?_ ?_
      | refine LeO.bind ?_ (fun _ => ?_)
set_option maxHeartbeats 8000000 in
set_option maxRecDepth 100000 in
theorem trestlelaw17_UtflibValid.calls (k : Nat) (a0 : ByteArray) (r : Bool) (w : World) (h : trestlelaw17_UtflibValid.f k a0 = some r) (HT_ : RowKit.Hid (Lib.Utf8Tabs 0 1 w)) :
    Calls Tryd.prog 12 #[.string a0] w fun e w' => e = .returned (.bool r) ∧ Below w.heap.size w w' := by
  have HB := Aside0.mk (Below.refl w.heap.size w)
  have H : ((trestlelaw17_fixed.f k).bind fun t368 => (if t368 = true then (if (a0.size : Int) > 300 then (if 0 ≤ 300 then (if 300 ≤ (a0.size : Int) then (trestlelaw17_UtflibValid.j0 k (a0.extract 0 300)) else (none)) else (none)) else (trestlelaw17_UtflibValid.j0 k a0)) else (some false))) = some r := h
  clear h
  replace H := Option.bind_eq_some_iff.mp H
  obtain ⟨t368, A20, H⟩ := H
  replace H : (if t368 = true then (if (a0.size : Int) > 300 then (if 0 ≤ 300 then (if 300 ≤ (a0.size : Int) then (trestlelaw17_UtflibValid.j0 k (a0.extract 0 300)) else (none)) else (none)) else (trestlelaw17_UtflibValid.j0 k a0)) else (some false)) = some r := H
  have A2 := Aside0.mk A20
  clear A20
  by_cases c3 : t368 = true
  · subst c3
    have H1 : (if (a0.size : Int) > 300 then (if 0 ≤ 300 then (if 300 ≤ (a0.size : Int) then (trestlelaw17_UtflibValid.j0 k (a0.extract 0 300)) else (none)) else (none)) else (trestlelaw17_UtflibValid.j0 k a0)) = some r := by rw [if_pos rfl] at H; exact H
    clear H
    have H := H1
    clear H1
    have HC4 := Aside0.mk H
    clear H
    go_enter Tryd.func12, Tryd.ntmps12
    go_upto_if 24 with (first | ((with_reducible refine gate_callee (f := 32) rfl ?_); refine goesL_ (some 20) rfl rfl Tryd.func32 (by kernel_rfl) rfl #[] rfl (by (try simp only [List.map_toArray, List.map_cons, List.map_nil]); first | done | rfl | (simp only [List.length_drop, List.length_take]; rfl)) ?_; (with_reducible refine (trestlelaw17_fixed.calls k  true _ A2.out ?hT_).mono ?_); (case hT_ => exact tab_step HT_ (by repeat (first | (with_reducible first | exact HB.out | apply below_alloc | apply pw_below_drewN | apply below_drew1) | exact HB.out))); rintro e w5 ⟨rfl, hb⟩; refine ⟨_, rfl, ?_⟩; have n0_ := Aside0.mk (below_step (by repeat (first | (with_reducible first | exact HB.out | apply below_alloc | apply pw_below_drewN | apply below_drew1) | exact HB.out)) hb); clear HB; have HB := n0_; clear n0_; (try clear hb); (try clear hb2); (try clear hk); (try clear hi)))
    (try simp only [Act.put, List.setIfInBounds_toArray, List.set_cons_zero, List.set_cons_succ])
    go_cut [0] (fun v0 wc => ∃ (kq : Nat) (x0_3 : ByteArray), v0 = .string x0_3 ∧ Aside0 (trestlelaw17_UtflibValid.j0 kq x0_3 = some r) ∧ Aside0 (kq ≤ k) ∧ Aside0 (Below w.heap.size w wc))
    case first =>
      have H := HC4.out
      clear HC4
      by_cases c6 : (a0.size : Int) > 300
      · rw [if_pos c6] at H
        have c6b0 : decide (300 < (a0.size : Int)) = true := decide_eq_true c6
        have c6b1 : decide (300 < a0.size) = true := decide_eq_true (by omega)
        clear c6
        (first | rw [c6b0] | (simp only [i64_w, i32_w]; rw [c6b0]) | skip)
        by_cases c7 : 0 ≤ 300
        · rw [if_pos c7] at H
          have c7b0 := eq_true c7
          have c7b1 : decide (0 ≤ 300) = true := decide_eq_true c7
          clear c7
          by_cases c8 : 300 ≤ (a0.size : Int)
          · rw [if_pos c8] at H
            have c8b0 := eq_true c8
            have c8b1 : decide (300 ≤ (a0.size : Int)) = true := decide_eq_true c8
            clear c8
            have H' := Aside0.mk H
            clear H
            go_wp2
            go_meet
            case rel => exact ⟨_, (a0.extract 0 300), (by first | rfl | (simp; done) | (simp [*]; done)), H', ⟨by first | omega | exact Nat.le_refl _⟩, ⟨by repeat (first | (with_reducible first | exact HB.out | apply below_alloc | apply pw_below_drewN | apply below_drew1) | exact HB.out)⟩⟩
          · rw [if_neg c8] at H
            exact absurd H (by simp)
        · rw [if_neg c7] at H
          exact absurd H (by simp)
      · rw [if_neg c6] at H
        have c6b0 : decide (300 < (a0.size : Int)) = false := decide_eq_false c6
        have c6b1 : decide (300 < a0.size) = false := decide_eq_false (by omega)
        clear c6
        (first | rw [c6b0] | (simp only [i64_w, i32_w]; rw [c6b0]) | skip)
        have H' := Aside0.mk H
        clear H
        go_wp2
        go_meet
        case rel => exact ⟨_, (a0), (by first | rfl | (simp; done) | (simp [*]; done)), H', ⟨by first | omega | exact Nat.le_refl _⟩, ⟨by repeat (first | (with_reducible first | exact HB.out | apply below_alloc | apply pw_below_drewN | apply below_drew1) | exact HB.out)⟩⟩
    case rest =>
      as_aux_lemma =>
        clear HC4
        try clear c1
        try clear p2
        try clear c3
        try clear c6
        try clear c6b0
        try clear c6b1
        try clear c7
        try clear c7b0
        try clear c7b1
        try clear c8
        try clear c8b0
        try clear c8b1
        obtain ⟨kq, x0_3, rfl, HA, HJ3, HB⟩ := hcut
        cases kq with
        | zero => exact absurd HA.out (by simp [trestlelaw17_UtflibValid.j0])
        | succ kj3 =>
          have H := HA.out
          clear HA
          simp only [trestlelaw17_UtflibValid.j0] at H
          replace H := Option.bind_eq_some_iff.mp H
          obtain ⟨t369, A90, H⟩ := H
          replace H : (if t369 ≥ 0 then (if 0 ≤ t369 then (if t369 ≤ (x0_3.size : Int) then (trestlelaw17_UtflibValid.j1 kj3 (x0_3.extract 0 (t369 : Int).toNat)) else (none)) else (none)) else (trestlelaw17_UtflibValid.j1 kj3 x0_3)) = some r := H
          have A9 := Aside0.mk A90
          clear A90
          have HC10 := Aside0.mk H
          clear H
          go_upto_if 30 with (first | ((with_reducible refine gate_callee (f := 38) rfl ?_); refine goesL_ (some 28) rfl rfl Tryd.func38 (by kernel_rfl) rfl #[.string x0_3] rfl (by (try simp only [List.map_toArray, List.map_cons, List.map_nil]); first | done | rfl | (simp only [List.length_drop, List.length_take]; rfl)) ?_; (with_reducible refine (trestleref01_Bad.calls kj3 x0_3 t369 _ A9.out).mono ?_); rintro e w11 ⟨rfl, hb⟩; refine ⟨_, rfl, ?_⟩; have n0_ := Aside0.mk (below_step (by repeat (first | (with_reducible first | exact HB.out | apply below_alloc | apply pw_below_drewN | apply below_drew1) | exact HB.out)) hb); clear HB; have HB := n0_; clear n0_; (try clear hb); (try clear hb2); (try clear hk); (try clear hi)))
          (try simp only [Act.put, List.setIfInBounds_toArray, List.set_cons_zero, List.set_cons_succ])
          go_cut [0] (fun v0 wc => ∃ (kq : Nat) (x0_9 : ByteArray), v0 = .string x0_9 ∧ Aside0 (trestlelaw17_UtflibValid.j1 kq x0_9 = some r) ∧ Aside0 (kq ≤ kj3) ∧ Aside0 (Below w.heap.size w wc))
          case first =>
            have H := HC10.out
            clear HC10
            by_cases c12 : t369 ≥ 0
            · rw [if_pos c12] at H
              have c12b0 : decide (0 ≤ t369) = true := decide_eq_true c12
              clear c12
              (first | rw [c12b0] | (simp only [i64_w, i32_w]; rw [c12b0]) | skip)
              by_cases c13 : 0 ≤ t369
              · rw [if_pos c13] at H
                have c13b0 := eq_true c13
                have c13b1 : decide (0 ≤ t369) = true := decide_eq_true c13
                clear c13
                by_cases c14 : t369 ≤ (x0_3.size : Int)
                · rw [if_pos c14] at H
                  have c14b0 := eq_true c14
                  have c14b1 : decide (t369 ≤ (x0_3.size : Int)) = true := decide_eq_true c14
                  clear c14
                  have H' := Aside0.mk H
                  clear H
                  go_wp2
                  go_meet
                  case rel => exact ⟨_, (x0_3.extract 0 (t369 : Int).toNat), (by first | rfl | (simp; done) | (simp [*]; done)), H', ⟨by have := HJ3.out; first | omega | exact Nat.le_refl _⟩, ⟨by repeat (first | (with_reducible first | exact HB.out | apply below_alloc | apply pw_below_drewN | apply below_drew1) | exact HB.out)⟩⟩
                · rw [if_neg c14] at H
                  exact absurd H (by simp)
              · rw [if_neg c13] at H
                exact absurd H (by simp)
            · rw [if_neg c12] at H
              have c12b0 : decide (0 ≤ t369) = false := decide_eq_false c12
              clear c12
              (first | rw [c12b0] | (simp only [i64_w, i32_w]; rw [c12b0]) | skip)
              have H' := Aside0.mk H
              clear H
              go_wp2
              go_meet
              case rel => exact ⟨_, (x0_3), (by first | rfl | (simp; done) | (simp [*]; done)), H', ⟨by have := HJ3.out; first | omega | exact Nat.le_refl _⟩, ⟨by repeat (first | (with_reducible first | exact HB.out | apply below_alloc | apply pw_below_drewN | apply below_drew1) | exact HB.out)⟩⟩
          case rest =>
            as_aux_lemma =>
              clear HC10
              try clear c1
              try clear p2
              try clear c3
              try clear c6
              try clear c6b0
              try clear c6b1
              try clear c7
              try clear c7b0
              try clear c7b1
              try clear c8
              try clear c8b0
              try clear c8b1
              try clear c12
              try clear c12b0
              try clear c13
              try clear c13b0
              try clear c13b1
              try clear c14
              try clear c14b0
              try clear c14b1
              try clear p2
              obtain ⟨kq, x0_9, rfl, HA, HJ9, HB⟩ := hcut
              cases kq with
              | zero => exact absurd HA.out (by simp [trestlelaw17_UtflibValid.j1])
              | succ kj9 =>
                have H := HA.out
                clear HA
                simp only [trestlelaw17_UtflibValid.j1] at H
                replace H := Option.bind_eq_some_iff.mp H
                obtain ⟨⟨t370, t371, t372⟩, A150, H⟩ := H
                replace H : (if (x0_9.size : Int) = 0 then ((utflib_Len.f x0_9 1 0).bind fun bt373 => (trestlelaw17_UtflibValid.j2 kj9 x0_9 bt373.1 bt373.2.1 bt373.2.2)) else (trestlelaw17_UtflibValid.j2 kj9 x0_9 t370 t371 t372)) = some r := H
                have A15 := Aside0.mk A150
                clear A150
                have HC16 := Aside0.mk H
                clear H
                go_upto_if 42 with (first | ((with_reducible refine gate_callee (f := 40) rfl ?_); refine goesL_ (some 36) rfl rfl Tryd.func40 (by kernel_rfl) rfl #[.string x0_9, .int .i64 1, .int .i64 (-1)] rfl (by (try simp only [List.map_toArray, List.map_cons, List.map_nil]); first | done | rfl | (simp only [List.length_drop, List.length_take]; rfl)) ?_; (with_reducible refine (utflib_Len.calls x0_9 1 (-1) t370 t371 t372 _ A15.out ?hT_).mono ?_); (case hT_ => exact tab_step HT_ (by repeat (first | (with_reducible first | exact HB.out | apply below_alloc | apply pw_below_drewN | apply below_drew1) | exact HB.out))); rintro e w17 ⟨rfl, hb⟩; refine ⟨_, rfl, ?_⟩; have n0_ := Aside0.mk (below_step (by repeat (first | (with_reducible first | exact HB.out | apply below_alloc | apply pw_below_drewN | apply below_drew1) | exact HB.out)) hb); clear HB; have HB := n0_; clear n0_; (try clear hb); (try clear hb2); (try clear hk); (try clear hi)))
                (try simp only [Act.put, List.setIfInBounds_toArray, List.set_cons_zero, List.set_cons_succ])
                go_cut [4, 5, 6] (fun v4 v5 v6 wc => ∃ (kq : Nat) (x4_15 : Int) (x5_15 : Int) (x6_15 : Int), v4 = .int .i64 x4_15 ∧ v5 = .int .i64 x5_15 ∧ v6 = .int .i64 x6_15 ∧ Aside0 (trestlelaw17_UtflibValid.j2 kq x0_9 x4_15 x5_15 x6_15 = some r) ∧ Aside0 (kq ≤ kj9) ∧ Aside0 (Below w.heap.size w wc))
                case first =>
                  have H := HC16.out
                  clear HC16
                  by_cases c18 : (x0_9.size : Int) = 0
                  · rw [if_pos c18] at H
                    have c18b0 : ((x0_9.size : Int) == 0) = true := beq_iff_eq.mpr c18
                    have c18b1 : ((x0_9.size : Int) != 0) = false := bne_eq_false_iff_eq.mpr c18
                    clear c18
                    (first | rw [c18b0] | (simp only [i64_w, i32_w]; rw [c18b0]) | skip)
                    replace H := Option.bind_eq_some_iff.mp H
                    obtain ⟨⟨t373, t374, t375⟩, A190, H⟩ := H
                    replace H : (trestlelaw17_UtflibValid.j2 kj9 x0_9 t373 t374 t375) = some r := H
                    have A19 := Aside0.mk A190
                    clear A190
                    have H' := Aside0.mk H
                    clear H
                    go_wp2_with (first | ((with_reducible refine gate_callee (f := 40) rfl ?_); refine goesL_ (some 45) rfl rfl Tryd.func40 (by kernel_rfl) rfl #[.string x0_9, .int .i64 1, .int .i64 0] rfl (by (try simp only [List.map_toArray, List.map_cons, List.map_nil]); first | done | rfl | (simp only [List.length_drop, List.length_take]; rfl)) ?_; (with_reducible refine (utflib_Len.calls x0_9 1 0 t373 t374 t375 _ A19.out ?hT_).mono ?_); (case hT_ => exact tab_step HT_ (by repeat (first | (with_reducible first | exact HB.out | apply below_alloc | apply pw_below_drewN | apply below_drew1) | exact HB.out))); rintro e w20 ⟨rfl, hb⟩; refine ⟨_, rfl, ?_⟩; have n0_ := Aside0.mk (below_step (by repeat (first | (with_reducible first | exact HB.out | apply below_alloc | apply pw_below_drewN | apply below_drew1) | exact HB.out)) hb); clear HB; have HB := n0_; clear n0_; (try clear hb); (try clear hb2); (try clear hk); (try clear hi)))
                    go_meet
                    case rel => exact ⟨_, (t373), (t374), (t375), (by first | rfl | (simp; done) | (simp [*]; done)), (by first | rfl | (simp; done) | (simp [*]; done)), (by first | rfl | (simp; done) | (simp [*]; done)), H', ⟨by have := HJ3.out; have := HJ9.out; first | omega | exact Nat.le_refl _⟩, ⟨by repeat (first | (with_reducible first | exact HB.out | apply below_alloc | apply pw_below_drewN | apply below_drew1) | exact HB.out)⟩⟩
                  · rw [if_neg c18] at H
                    have c18b0 : ((x0_9.size : Int) == 0) = false := beq_eq_false_iff_ne.mpr c18
                    have c18b1 : ((x0_9.size : Int) != 0) = true := bne_iff_ne.mpr c18
                    (first | rw [c18b0] | (simp only [i64_w, i32_w]; rw [c18b0]) | skip)
                    have H' := Aside0.mk H
                    clear H
                    go_wp2
                    go_meet
                    case rel => exact ⟨_, (t370), (t371), (t372), (by first | rfl | (simp; done) | (simp [*]; done)), (by first | rfl | (simp; done) | (simp [*]; done)), (by first | rfl | (simp; done) | (simp [*]; done)), H', ⟨by have := HJ3.out; have := HJ9.out; first | omega | exact Nat.le_refl _⟩, ⟨by repeat (first | (with_reducible first | exact HB.out | apply below_alloc | apply pw_below_drewN | apply below_drew1) | exact HB.out)⟩⟩
                case rest =>
                  as_aux_lemma =>
                    clear HC16
                    try clear c1
                    try clear p2
                    try clear c3
                    try clear c4
                    try clear c6
                    try clear c6b0
                    try clear c6b1
                    try clear c7
                    try clear c7b0
                    try clear c7b1
                    try clear c8
                    try clear c8b0
                    try clear c8b1
                    try clear c12
                    try clear c12b0
                    try clear c13
                    try clear c13b0
                    try clear c13b1
                    try clear c14
                    try clear c14b0
                    try clear c14b1
                    try clear c18
                    try clear c18b0
                    try clear c18b1
                    try clear p2
                    obtain ⟨kq, x4_15, x5_15, x6_15, rfl, rfl, rfl, HA, HJ15, HB⟩ := hcut
                    cases kq with
                    | zero => exact absurd HA.out (by simp [trestlelaw17_UtflibValid.j2])
                    | succ kj15 =>
                      have H := HA.out
                      clear HA
                      simp only [trestlelaw17_UtflibValid.j2] at H
                      replace H := Option.bind_eq_some_iff.mp H
                      obtain ⟨t376, A210, H⟩ := H
                      replace H : (if x6_15 = 0 then (if x5_15 = 0 then ((runes_Count.f x0_9).bind fun t379 => (if x4_15 = t379 then (trestlelaw17_UtflibValid.j3 kj15 x0_9 t376 (x4_15 != (t376.length : Int))) else (trestlelaw17_UtflibValid.j3 kj15 x0_9 t376 true))) else (trestlelaw17_UtflibValid.j3 kj15 x0_9 t376 true)) else (trestlelaw17_UtflibValid.j3 kj15 x0_9 t376 true)) = some r := H
                      have A21 := Aside0.mk A210
                      clear A210
                      have HC22 := Aside0.mk H
                      clear H
                      go_upto_region 12 with (first | ((with_reducible refine gate_callee (f := 28) rfl ?_); refine goesL_ (some 50) rfl rfl Tryd.func28 (by kernel_rfl) rfl #[.string x0_9] rfl (by (try simp only [List.map_toArray, List.map_cons, List.map_nil]); first | done | rfl | (simp only [List.length_drop, List.length_take]; rfl)) ?_; (with_reducible refine (runes_List.calls x0_9 t376 _ A21.out).mono ?_); rintro e w23 ⟨v377, rfl, ho0, hb⟩; refine ⟨_, rfl, ?_⟩; have n0_ := Aside0.mk (Kd.R_lower ho0 (below_size (by repeat (first | (with_reducible first | exact HB.out | apply below_alloc | apply pw_below_drewN | apply below_drew1) | exact HB.out)))); have n1_ := Aside0.mk (below_step (by repeat (first | (with_reducible first | exact HB.out | apply below_alloc | apply pw_below_drewN | apply below_drew1) | exact HB.out)) hb); clear HB; have HO378 := n0_; have HB := n1_; clear n0_ n1_; (try clear hb); (try clear hb2); (try clear hk); (try clear hi); (try clear ho0)))
                      (try simp only [Act.put, List.setIfInBounds_toArray, List.set_cons_zero, List.set_cons_succ])
                      go_cut [68] (fun v68 wc => ∃ (kq : Nat) (x68_21 : Bool), v68 = .bool x68_21 ∧ Aside0 (trestlelaw17_UtflibValid.j3 kq x0_9 t376 x68_21 = some r) ∧ Aside0 (kq ≤ kj15) ∧ Aside0 (Kd.R k28 28 wc w.heap.size (fun _ => True) v377 t376) ∧ Aside0 (Below w.heap.size w wc))
                      case first =>
                        have H := HC22.out
                        clear HC22
                        by_cases c24 : x6_15 = 0
                        · rw [if_pos c24] at H
                          have c24b0 : (x6_15 == 0) = true := beq_iff_eq.mpr c24
                          have c24b1 : (x6_15 != 0) = false := bne_eq_false_iff_eq.mpr c24
                          clear c24
                          (first | rw [c24b0] | (simp only [i64_w, i32_w]; rw [c24b0]) | skip)
                          by_cases c25 : x5_15 = 0
                          · rw [if_pos c25] at H
                            have c25b0 : (x5_15 == 0) = true := beq_iff_eq.mpr c25
                            have c25b1 : (x5_15 != 0) = false := bne_eq_false_iff_eq.mpr c25
                            clear c25
                            replace H := Option.bind_eq_some_iff.mp H
                            obtain ⟨t379, A260, H⟩ := H
                            replace H : (if x4_15 = t379 then (trestlelaw17_UtflibValid.j3 kj15 x0_9 t376 (x4_15 != (t376.length : Int))) else (trestlelaw17_UtflibValid.j3 kj15 x0_9 t376 true)) = some r := H
                            have A26 := Aside0.mk A260
                            clear A260
                            by_cases c27 : x4_15 = t379
                            · rw [if_pos c27] at H
                              have c27b0 : (x4_15 == t379) = true := beq_iff_eq.mpr c27
                              have c27b1 : (x4_15 != t379) = false := bne_eq_false_iff_eq.mpr c27
                              clear c27
                              have H' := Aside0.mk H
                              clear H
                              go_wp2_with (first | (go_at_call 21; (with_reducible refine (runes_Count.calls x0_9 t379 _ A26.out).mono ?_); rintro e w28 ⟨rfl, hb⟩; have n0_ := Aside0.mk (Kd.R_below (by (with_reducible repeat (first | apply Kd.R_alloc | apply Kd.R_drewN | apply Kd.R_drew)); exact HO378.out) hb); have n1_ := Aside0.mk (below_step (by repeat (first | (with_reducible first | exact HB.out | apply below_alloc | apply pw_below_drewN | apply below_drew1) | exact HB.out)) hb); clear HO378; clear HB; have HO378 := n0_; have HB := n1_; clear n0_ n1_; (try clear hb); (try clear hb2); (try clear hk); (try clear hi); obtain ⟨Ao29, co29, eo29⟩ := Kd.R_slice HO378.out; subst eo29))
                              go_meet
                              case rel => exact ⟨_, ((x4_15 != (t376.length : Int))), (by first | rfl | (simp; done) | (simp [*]; done)), H', ⟨by have := HJ3.out; have := HJ9.out; have := HJ15.out; first | omega | exact Nat.le_refl _⟩, ⟨by (with_reducible repeat (first | apply Kd.R_alloc | apply Kd.R_drewN | apply Kd.R_drew)); exact HO378.out⟩, ⟨by repeat (first | (with_reducible first | exact HB.out | apply below_alloc | apply pw_below_drewN | apply below_drew1) | exact HB.out)⟩⟩
                            · rw [if_neg c27] at H
                              have c27b0 : (x4_15 == t379) = false := beq_eq_false_iff_ne.mpr c27
                              have c27b1 : (x4_15 != t379) = true := bne_iff_ne.mpr c27
                              have H' := Aside0.mk H
                              clear H
                              go_wp2_with (first | (go_at_call 21; (with_reducible refine (runes_Count.calls x0_9 t379 _ A26.out).mono ?_); rintro e w30 ⟨rfl, hb⟩; have n0_ := Aside0.mk (Kd.R_below (by (with_reducible repeat (first | apply Kd.R_alloc | apply Kd.R_drewN | apply Kd.R_drew)); exact HO378.out) hb); have n1_ := Aside0.mk (below_step (by repeat (first | (with_reducible first | exact HB.out | apply below_alloc | apply pw_below_drewN | apply below_drew1) | exact HB.out)) hb); clear HO378; clear HB; have HO378 := n0_; have HB := n1_; clear n0_ n1_; (try clear hb); (try clear hb2); (try clear hk); (try clear hi)))
                              go_meet
                              case rel => exact ⟨_, (true), (by first | rfl | (simp; done) | (simp [*]; done)), H', ⟨by have := HJ3.out; have := HJ9.out; have := HJ15.out; first | omega | exact Nat.le_refl _⟩, ⟨by (with_reducible repeat (first | apply Kd.R_alloc | apply Kd.R_drewN | apply Kd.R_drew)); exact HO378.out⟩, ⟨by repeat (first | (with_reducible first | exact HB.out | apply below_alloc | apply pw_below_drewN | apply below_drew1) | exact HB.out)⟩⟩
                          · rw [if_neg c25] at H
                            have c25b0 : (x5_15 == 0) = false := beq_eq_false_iff_ne.mpr c25
                            have c25b1 : (x5_15 != 0) = true := bne_iff_ne.mpr c25
                            have H' := Aside0.mk H
                            clear H
                            go_wp2
                            go_meet
                            case rel => exact ⟨_, (true), (by first | rfl | (simp; done) | (simp [*]; done)), H', ⟨by have := HJ3.out; have := HJ9.out; have := HJ15.out; first | omega | exact Nat.le_refl _⟩, ⟨by (with_reducible repeat (first | apply Kd.R_alloc | apply Kd.R_drewN | apply Kd.R_drew)); exact HO378.out⟩, ⟨by repeat (first | (with_reducible first | exact HB.out | apply below_alloc | apply pw_below_drewN | apply below_drew1) | exact HB.out)⟩⟩
                        · rw [if_neg c24] at H
                          have c24b0 : (x6_15 == 0) = false := beq_eq_false_iff_ne.mpr c24
                          have c24b1 : (x6_15 != 0) = true := bne_iff_ne.mpr c24
                          (first | rw [c24b0] | (simp only [i64_w, i32_w]; rw [c24b0]) | skip)
                          have H' := Aside0.mk H
                          clear H
                          go_wp2
                          go_meet
                          case rel => exact ⟨_, (true), (by first | rfl | (simp; done) | (simp [*]; done)), H', ⟨by have := HJ3.out; have := HJ9.out; have := HJ15.out; first | omega | exact Nat.le_refl _⟩, ⟨by (with_reducible repeat (first | apply Kd.R_alloc | apply Kd.R_drewN | apply Kd.R_drew)); exact HO378.out⟩, ⟨by repeat (first | (with_reducible first | exact HB.out | apply below_alloc | apply pw_below_drewN | apply below_drew1) | exact HB.out)⟩⟩
                      case rest =>
                        as_aux_lemma =>
                          clear HC22
                          try clear c1
                          try clear c2
                          try clear p2
                          try clear c3
                          try clear c4
                          try clear c6
                          try clear c6b0
                          try clear c6b1
                          try clear c7
                          try clear c7b0
                          try clear c7b1
                          try clear c8
                          try clear c8b0
                          try clear c8b1
                          try clear c12
                          try clear c12b0
                          try clear c13
                          try clear c13b0
                          try clear c13b1
                          try clear c14
                          try clear c14b0
                          try clear c14b1
                          try clear c18
                          try clear c18b0
                          try clear c18b1
                          try clear c24
                          try clear c24b0
                          try clear c24b1
                          try clear c25
                          try clear c25b0
                          try clear c25b1
                          try clear c27
                          try clear c27b0
                          try clear c27b1
                          try clear c28
                          try clear p2
                          obtain ⟨kq, x68_21, rfl, HA, HJ21, HO_7, HB⟩ := hcut
                          cases kq with
                          | zero => exact absurd HA.out (by simp [trestlelaw17_UtflibValid.j3])
                          | succ kj21 =>
                            have H := HA.out
                            clear HA
                            simp only [trestlelaw17_UtflibValid.j3] at H
                            by_cases c31 : x68_21 = true
                            · subst c31
                              have H1 : (some false) = some r := by rw [if_pos rfl] at H; exact H
                              clear H
                              have H := H1
                              clear H1
                              obtain rfl := Option.some.inj H
                              go_wp2
                              go_ret
                              exact ⟨by first | rfl | (simp [errW_none, errW_some] <;> rfl) | (simp [*, errW_none, errW_some] <;> rfl), by repeat (first | (with_reducible first | exact HB.out | apply below_alloc | apply pw_below_drewN | apply below_drew1) | exact HB.out)⟩
                            · replace c31 := Bool.eq_false_iff.mpr c31
                              subst c31
                              have H1 : (trestlelaw17_UtflibValid.l0 kj21 x0_9 t376 0 0) = some r := by rw [if_neg (show ¬ (false = true) by decide)] at H; exact H
                              clear H
                              have H := H1
                              clear H1
                              have HC32 := Aside0.mk H
                              clear H
                              go_upto_block 0 with (fail)
                              go_cut [] (fun wc => ∃ (kq : Nat), Aside0 (trestlelaw17_UtflibValid.j7 kq x0_9 t376 = some r) ∧ Aside0 (kq ≤ kj21) ∧ Aside0 (Kd.R k28 28 wc w.heap.size (fun _ => True) v377 t376) ∧ Aside0 (Below w.heap.size w wc))
                              case first =>
                                have H := HC32.out
                                clear HC32
                                have H' := Aside0.mk H
                                clear H
                                go_wp2
                                go_loopg [8, 9] kj21 (fun kq v8 v9 w' => ∃ (x8_5 : Int) (x9_5 : Int), v8 = .int .i64 x8_5 ∧ v9 = .int .i64 x9_5 ∧ Aside0 (trestlelaw17_UtflibValid.l0 kq x0_9 t376 x8_5 x9_5 = some r) ∧ Aside0 (kq ≤ kj21) ∧ Aside0 (Kd.R k28 28 w' w.heap.size (fun _ => True) v377 t376) ∧ Aside0 (Below w.heap.size w w'))
                                case atStart => exact ⟨(0), (0), (by first | rfl | (simp; done) | (simp [*]; done)), (by first | rfl | (simp; done) | (simp [*]; done)), H', ⟨Nat.le_refl _⟩, ⟨by (with_reducible repeat (first | apply Kd.R_alloc | apply Kd.R_drewN | apply Kd.R_drew)); exact HO_7.out⟩, ⟨by repeat (first | (with_reducible first | exact HB.out | apply below_alloc | apply pw_below_drewN | apply below_drew1) | exact HB.out)⟩⟩
                                case round =>
                                  as_aux_lemma =>
                                    clear H'
                                    try clear c1
                                    try clear c2
                                    try clear p2
                                    try clear c3
                                    try clear c4
                                    try clear c6
                                    try clear c6b0
                                    try clear c6b1
                                    try clear c7
                                    try clear c7b0
                                    try clear c7b1
                                    try clear c8
                                    try clear c8b0
                                    try clear c8b1
                                    try clear c12
                                    try clear c12b0
                                    try clear c13
                                    try clear c13b0
                                    try clear c13b1
                                    try clear c14
                                    try clear c14b0
                                    try clear c14b1
                                    try clear c18
                                    try clear c18b0
                                    try clear c18b1
                                    try clear c24
                                    try clear c24b0
                                    try clear c24b1
                                    try clear c25
                                    try clear c25b0
                                    try clear c25b1
                                    try clear c27
                                    try clear c27b0
                                    try clear c27b1
                                    try clear c28
                                    try clear c31
                                    try clear c32
                                    try clear p2
                                    obtain ⟨x8_5, x9_5, rfl, rfl, HA, HK5, HO_7, HB⟩ := hrel
                                    cases gk with
                                    | zero => exact absurd HA.out (by simp [trestlelaw17_UtflibValid.l0])
                                    | succ k5 =>
                                      have H := HA.out
                                      clear HA
                                      simp only [trestlelaw17_UtflibValid.l0] at H
                                      by_cases c33 : x9_5 ≤ (t376.length : Int)
                                      · rw [if_pos c33] at H
                                        have c33b0 : decide (x9_5 ≤ (t376.length : Int)) = true := decide_eq_true c33
                                        clear c33
                                        (first | rw [c33b0] | (simp only [i64_w, i32_w]; rw [c33b0]) | skip)
                                        replace H := Option.bind_eq_some_iff.mp H
                                        obtain ⟨⟨t380, t381, t382⟩, A340, H⟩ := H
                                        replace H : ((utflib_Step.f k5 x0_9 x8_5).bind fun bt383 => (if t381 = true then (if t382 = 0 then (if bt383.2.2.2 = 0 then (trestlelaw17_UtflibValid.j5 k5 x0_9 t376 x9_5 t380 bt383.1 bt383.2.1 (bt383.2.2.1 != (decide (x9_5 < (t376.length : Int))))) else (trestlelaw17_UtflibValid.j5 k5 x0_9 t376 x9_5 t380 bt383.1 bt383.2.1 true)) else (trestlelaw17_UtflibValid.j5 k5 x0_9 t376 x9_5 t380 bt383.1 bt383.2.1 true)) else (trestlelaw17_UtflibValid.j5 k5 x0_9 t376 x9_5 t380 bt383.1 bt383.2.1 true))) = some r := H
                                        have A34 := Aside0.mk A340
                                        clear A340
                                        replace H := Option.bind_eq_some_iff.mp H
                                        obtain ⟨⟨t383, t384, t385, t386⟩, A350, H⟩ := H
                                        replace H : (if t381 = true then (if t382 = 0 then (if t386 = 0 then (trestlelaw17_UtflibValid.j5 k5 x0_9 t376 x9_5 t380 t383 t384 (t385 != (decide (x9_5 < (t376.length : Int))))) else (trestlelaw17_UtflibValid.j5 k5 x0_9 t376 x9_5 t380 t383 t384 true)) else (trestlelaw17_UtflibValid.j5 k5 x0_9 t376 x9_5 t380 t383 t384 true)) else (trestlelaw17_UtflibValid.j5 k5 x0_9 t376 x9_5 t380 t383 t384 true)) = some r := H
                                        have A35 := Aside0.mk A350
                                        clear A350
                                        have HC36 := Aside0.mk H
                                        clear H
                                        obtain ⟨Ao37, co37, eo37⟩ := Kd.R_slice HO_7.out
                                        subst eo37
                                        go_upto_region 20 with (first | ((with_reducible refine gate_callee (f := 34) rfl ?_); refine goesL_ (some 79) rfl rfl Tryd.func34 (by kernel_rfl) rfl #[.string x0_9, .int .i64 (wrap64 (x9_5 + 1)), .int .i64 1] rfl (by (try simp only [List.map_toArray, List.map_cons, List.map_nil]); first | done | rfl | (simp only [List.length_drop, List.length_take]; rfl)) ?_; (with_reducible refine (utflib_Offset.calls k5 x0_9 (wrap64 (x9_5 + 1)) 1 t380 t381 t382 _ A34.out).mono ?_); rintro e w' ⟨rfl, ⟨nd, rfl⟩⟩; refine ⟨_, rfl, ?_⟩) | ((with_reducible refine gate_callee (f := 36) rfl ?_); refine goesL_ (some 86) rfl rfl Tryd.func36 (by kernel_rfl) rfl #[.string x0_9, .int .i64 x8_5] rfl (by (try simp only [List.map_toArray, List.map_cons, List.map_nil]); first | done | rfl | (simp only [List.length_drop, List.length_take]; rfl)) ?_; (with_reducible refine (utflib_Step.calls k5 x0_9 x8_5 t383 t384 t385 t386 _ A35.out ?hT_).mono ?_); (case hT_ => exact tab_step HT_ (by repeat (first | (with_reducible first | exact HB.out | apply below_alloc | apply pw_below_drewN | apply below_drew1) | exact HB.out))); rintro e w38 ⟨rfl, hb⟩; refine ⟨_, rfl, ?_⟩; have n0_ := Aside0.mk (Kd.R_below (by (with_reducible repeat (first | apply Kd.R_alloc | apply Kd.R_drewN | apply Kd.R_drew)); exact HO_7.out) hb); have n1_ := Aside0.mk (below_step (by repeat (first | (with_reducible first | exact HB.out | apply below_alloc | apply pw_below_drewN | apply below_drew1) | exact HB.out)) hb); clear HO_7; clear HB; have HO_7 := n0_; have HB := n1_; clear n0_ n1_; (try clear hb); (try clear hb2); (try clear hk); (try clear hi)))
                                        (try simp only [Act.put, List.setIfInBounds_toArray, List.set_cons_zero, List.set_cons_succ])
                                        go_cut [108] (fun v108 wc => ∃ (kq : Nat) (x108_35 : Bool), v108 = .bool x108_35 ∧ Aside0 (trestlelaw17_UtflibValid.j5 kq x0_9 t376 x9_5 t380 t383 t384 x108_35 = some r) ∧ Aside0 (kq ≤ k5) ∧ Aside0 (Kd.R k28 28 wc w.heap.size (fun _ => True) (.slice Ao37 t376.length co37) t376) ∧ Aside0 (Below w.heap.size w wc))
                                        case first =>
                                          have H := HC36.out
                                          clear HC36
                                          by_cases c39 : t381 = true
                                          · subst c39
                                            have H1 : (if t382 = 0 then (if t386 = 0 then (trestlelaw17_UtflibValid.j5 k5 x0_9 t376 x9_5 t380 t383 t384 (t385 != (decide (x9_5 < (t376.length : Int))))) else (trestlelaw17_UtflibValid.j5 k5 x0_9 t376 x9_5 t380 t383 t384 true)) else (trestlelaw17_UtflibValid.j5 k5 x0_9 t376 x9_5 t380 t383 t384 true)) = some r := by rw [if_pos rfl] at H; exact H
                                            clear H
                                            have H := H1
                                            clear H1
                                            by_cases c40 : t382 = 0
                                            · rw [if_pos c40] at H
                                              have c40b0 : (t382 == 0) = true := beq_iff_eq.mpr c40
                                              have c40b1 : (t382 != 0) = false := bne_eq_false_iff_eq.mpr c40
                                              clear c40
                                              (first | rw [c40b0] | (simp only [i64_w, i32_w]; rw [c40b0]) | skip)
                                              by_cases c41 : t386 = 0
                                              · rw [if_pos c41] at H
                                                have c41b0 : (t386 == 0) = true := beq_iff_eq.mpr c41
                                                have c41b1 : (t386 != 0) = false := bne_eq_false_iff_eq.mpr c41
                                                clear c41
                                                have H' := Aside0.mk H
                                                clear H
                                                go_wp2
                                                go_meet
                                                case rel => exact ⟨_, ((t385 != (decide (x9_5 < (t376.length : Int))))), (by first | rfl | (simp; done) | (simp [*]; done)), H', ⟨by have := HJ3.out; have := HJ9.out; have := HJ15.out; have := HJ21.out; have := HK5.out; first | omega | exact Nat.le_refl _⟩, ⟨by (with_reducible repeat (first | apply Kd.R_alloc | apply Kd.R_drewN | apply Kd.R_drew)); exact HO_7.out⟩, ⟨by repeat (first | (with_reducible first | exact HB.out | apply below_alloc | apply pw_below_drewN | apply below_drew1) | exact HB.out)⟩⟩
                                              · rw [if_neg c41] at H
                                                have c41b0 : (t386 == 0) = false := beq_eq_false_iff_ne.mpr c41
                                                have c41b1 : (t386 != 0) = true := bne_iff_ne.mpr c41
                                                have H' := Aside0.mk H
                                                clear H
                                                go_wp2
                                                go_meet
                                                case rel => exact ⟨_, (true), (by first | rfl | (simp; done) | (simp [*]; done)), H', ⟨by have := HJ3.out; have := HJ9.out; have := HJ15.out; have := HJ21.out; have := HK5.out; first | omega | exact Nat.le_refl _⟩, ⟨by (with_reducible repeat (first | apply Kd.R_alloc | apply Kd.R_drewN | apply Kd.R_drew)); exact HO_7.out⟩, ⟨by repeat (first | (with_reducible first | exact HB.out | apply below_alloc | apply pw_below_drewN | apply below_drew1) | exact HB.out)⟩⟩
                                            · rw [if_neg c40] at H
                                              have c40b0 : (t382 == 0) = false := beq_eq_false_iff_ne.mpr c40
                                              have c40b1 : (t382 != 0) = true := bne_iff_ne.mpr c40
                                              (first | rw [c40b0] | (simp only [i64_w, i32_w]; rw [c40b0]) | skip)
                                              have H' := Aside0.mk H
                                              clear H
                                              go_wp2
                                              go_meet
                                              case rel => exact ⟨_, (true), (by first | rfl | (simp; done) | (simp [*]; done)), H', ⟨by have := HJ3.out; have := HJ9.out; have := HJ15.out; have := HJ21.out; have := HK5.out; first | omega | exact Nat.le_refl _⟩, ⟨by (with_reducible repeat (first | apply Kd.R_alloc | apply Kd.R_drewN | apply Kd.R_drew)); exact HO_7.out⟩, ⟨by repeat (first | (with_reducible first | exact HB.out | apply below_alloc | apply pw_below_drewN | apply below_drew1) | exact HB.out)⟩⟩
                                          · replace c39 := Bool.eq_false_iff.mpr c39
                                            subst c39
                                            have H1 : (trestlelaw17_UtflibValid.j5 k5 x0_9 t376 x9_5 t380 t383 t384 true) = some r := by rw [if_neg (show ¬ (false = true) by decide)] at H; exact H
                                            clear H
                                            have H := H1
                                            clear H1
                                            have H' := Aside0.mk H
                                            clear H
                                            go_wp2
                                            go_meet
                                            case rel => exact ⟨_, (true), (by first | rfl | (simp; done) | (simp [*]; done)), H', ⟨by have := HJ3.out; have := HJ9.out; have := HJ15.out; have := HJ21.out; have := HK5.out; first | omega | exact Nat.le_refl _⟩, ⟨by (with_reducible repeat (first | apply Kd.R_alloc | apply Kd.R_drewN | apply Kd.R_drew)); exact HO_7.out⟩, ⟨by repeat (first | (with_reducible first | exact HB.out | apply below_alloc | apply pw_below_drewN | apply below_drew1) | exact HB.out)⟩⟩
                                        case rest =>
                                          as_aux_lemma =>
                                            clear HC36
                                            try clear c1
                                            try clear c2
                                            try clear p2
                                            try clear c3
                                            try clear c4
                                            try clear c6
                                            try clear c6b0
                                            try clear c6b1
                                            try clear p6
                                            try clear c7
                                            try clear c7b0
                                            try clear c7b1
                                            try clear c8
                                            try clear c8b0
                                            try clear c8b1
                                            try clear c12
                                            try clear c12b0
                                            try clear c13
                                            try clear c13b0
                                            try clear c13b1
                                            try clear c14
                                            try clear c14b0
                                            try clear c14b1
                                            try clear c18
                                            try clear c18b0
                                            try clear c18b1
                                            try clear c24
                                            try clear c24b0
                                            try clear c24b1
                                            try clear c25
                                            try clear c25b0
                                            try clear c25b1
                                            try clear c27
                                            try clear c27b0
                                            try clear c27b1
                                            try clear c28
                                            try clear c31
                                            try clear c32
                                            try clear c33
                                            try clear c33b0
                                            try clear c34
                                            try clear c36
                                            try clear c38
                                            try clear c39
                                            try clear c40
                                            try clear c40b0
                                            try clear c40b1
                                            try clear c41
                                            try clear c41b0
                                            try clear c41b1
                                            try clear p2
                                            obtain ⟨kq, x108_35, rfl, HA, HJ35, HO_7, HB⟩ := hcut
                                            cases kq with
                                            | zero => exact absurd HA.out (by simp [trestlelaw17_UtflibValid.j5])
                                            | succ kj35 =>
                                              have H := HA.out
                                              clear HA
                                              simp only [trestlelaw17_UtflibValid.j5] at H
                                              by_cases c42 : x108_35 = true
                                              · subst c42
                                                have H1 : (some false) = some r := by rw [if_pos rfl] at H; exact H
                                                clear H
                                                have H := H1
                                                clear H1
                                                obtain rfl := Option.some.inj H
                                                go_wp2
                                                go_ret
                                                exact ⟨by first | rfl | (simp [errW_none, errW_some] <;> rfl) | (simp [*, errW_none, errW_some] <;> rfl), by repeat (first | (with_reducible first | exact HB.out | apply below_alloc | apply pw_below_drewN | apply below_drew1) | exact HB.out)⟩
                                              · replace c42 := Bool.eq_false_iff.mpr c42
                                                subst c42
                                                have H1 : (if x9_5 = (t376.length : Int) then ((utflib_Offset.f kj35 x0_9 (wrap64 (x9_5 + 2)) 1).bind fun bt387 => (if t380 = (wrap64 ((x0_9.size : Int) + 1)) then (if bt387.2.1 = true then (trestlelaw17_UtflibValid.j6 kj35 x0_9 t376 true) else (trestlelaw17_UtflibValid.j6 kj35 x0_9 t376 (bt387.2.2 != 0))) else (trestlelaw17_UtflibValid.j6 kj35 x0_9 t376 true))) else (if 0 ≤ x9_5 then (if x9_5 < (t376.length : Int) then (if t380 = (wrap64 (((rd_T28 t376 x9_5).f0) + 1)) then (if t383 = t380 then (if t384 = ((rd_T28 t376 x9_5).f2) then (trestlelaw17_UtflibValid.l0 kj35 x0_9 t376 t383 (wrap64 (x9_5 + 1))) else (some false)) else (some false)) else (some false)) else (none)) else (none))) = some r := by rw [if_neg (show ¬ (false = true) by decide)] at H; exact H
                                                clear H
                                                have H := H1
                                                clear H1
                                                by_cases c43 : x9_5 = (t376.length : Int)
                                                · rw [if_pos c43] at H
                                                  have c43b0 : (x9_5 == (t376.length : Int)) = true := beq_iff_eq.mpr c43
                                                  have c43b1 : (x9_5 != (t376.length : Int)) = false := bne_eq_false_iff_eq.mpr c43
                                                  clear c43
                                                  replace H := Option.bind_eq_some_iff.mp H
                                                  obtain ⟨⟨t387, t388, t389⟩, A440, H⟩ := H
                                                  replace H : (if t380 = (wrap64 ((x0_9.size : Int) + 1)) then (if t388 = true then (trestlelaw17_UtflibValid.j6 kj35 x0_9 t376 true) else (trestlelaw17_UtflibValid.j6 kj35 x0_9 t376 (t389 != 0))) else (trestlelaw17_UtflibValid.j6 kj35 x0_9 t376 true)) = some r := H
                                                  have A44 := Aside0.mk A440
                                                  clear A440
                                                  have HC45 := Aside0.mk H
                                                  clear H
                                                  go_upto_region 24 with (first | ((with_reducible refine gate_callee (f := 34) rfl ?_); refine goesL_ (some 117) rfl rfl Tryd.func34 (by kernel_rfl) rfl #[.string x0_9, .int .i64 (wrap64 (x9_5 + 2)), .int .i64 1] rfl (by (try simp only [List.map_toArray, List.map_cons, List.map_nil]); first | done | rfl | (simp only [List.length_drop, List.length_take]; rfl)) ?_; (with_reducible refine (utflib_Offset.calls kj35 x0_9 (wrap64 (x9_5 + 2)) 1 t387 t388 t389 _ A44.out).mono ?_); rintro e w' ⟨rfl, ⟨nd, rfl⟩⟩; refine ⟨_, rfl, ?_⟩))
                                                  (try simp only [Act.put, List.setIfInBounds_toArray, List.set_cons_zero, List.set_cons_succ])
                                                  go_cut [132] (fun v132 wc => ∃ (kq : Nat) (x132_44 : Bool), v132 = .bool x132_44 ∧ Aside0 (trestlelaw17_UtflibValid.j6 kq x0_9 t376 x132_44 = some r) ∧ Aside0 (kq ≤ kj35) ∧ Aside0 (Kd.R k28 28 wc w.heap.size (fun _ => True) (.slice Ao37 t376.length co37) t376) ∧ Aside0 (Below w.heap.size w wc))
                                                  case first =>
                                                    have H := HC45.out
                                                    clear HC45
                                                    by_cases c46 : t380 = (wrap64 ((x0_9.size : Int) + 1))
                                                    · rw [if_pos c46] at H
                                                      have c46b0 : (t380 == (wrap64 ((x0_9.size : Int) + 1))) = true := beq_iff_eq.mpr c46
                                                      have c46b1 : (t380 != (wrap64 ((x0_9.size : Int) + 1))) = false := bne_eq_false_iff_eq.mpr c46
                                                      clear c46
                                                      (first | rw [c46b0] | (simp only [i64_w, i32_w]; rw [c46b0]) | skip)
                                                      by_cases c47 : t388 = true
                                                      · subst c47
                                                        have H1 : (trestlelaw17_UtflibValid.j6 kj35 x0_9 t376 true) = some r := by rw [if_pos rfl] at H; exact H
                                                        clear H
                                                        have H := H1
                                                        clear H1
                                                        have H' := Aside0.mk H
                                                        clear H
                                                        go_wp2
                                                        go_meet
                                                        case rel => exact ⟨_, (true), (by first | rfl | (simp; done) | (simp [*]; done)), H', ⟨by have := HJ3.out; have := HJ9.out; have := HJ15.out; have := HJ21.out; have := HK5.out; have := HJ35.out; first | omega | exact Nat.le_refl _⟩, ⟨by (with_reducible repeat (first | apply Kd.R_alloc | apply Kd.R_drewN | apply Kd.R_drew)); exact HO_7.out⟩, ⟨by repeat (first | (with_reducible first | exact HB.out | apply below_alloc | apply pw_below_drewN | apply below_drew1) | exact HB.out)⟩⟩
                                                      · replace c47 := Bool.eq_false_iff.mpr c47
                                                        subst c47
                                                        have H1 : (trestlelaw17_UtflibValid.j6 kj35 x0_9 t376 (t389 != 0)) = some r := by rw [if_neg (show ¬ (false = true) by decide)] at H; exact H
                                                        clear H
                                                        have H := H1
                                                        clear H1
                                                        have H' := Aside0.mk H
                                                        clear H
                                                        go_wp2
                                                        go_meet
                                                        case rel => exact ⟨_, ((t389 != 0)), (by first | rfl | (simp; done) | (simp [*]; done)), H', ⟨by have := HJ3.out; have := HJ9.out; have := HJ15.out; have := HJ21.out; have := HK5.out; have := HJ35.out; first | omega | exact Nat.le_refl _⟩, ⟨by (with_reducible repeat (first | apply Kd.R_alloc | apply Kd.R_drewN | apply Kd.R_drew)); exact HO_7.out⟩, ⟨by repeat (first | (with_reducible first | exact HB.out | apply below_alloc | apply pw_below_drewN | apply below_drew1) | exact HB.out)⟩⟩
                                                    · rw [if_neg c46] at H
                                                      have c46b0 : (t380 == (wrap64 ((x0_9.size : Int) + 1))) = false := beq_eq_false_iff_ne.mpr c46
                                                      have c46b1 : (t380 != (wrap64 ((x0_9.size : Int) + 1))) = true := bne_iff_ne.mpr c46
                                                      (first | rw [c46b0] | (simp only [i64_w, i32_w]; rw [c46b0]) | skip)
                                                      have H' := Aside0.mk H
                                                      clear H
                                                      go_wp2
                                                      go_meet
                                                      case rel => exact ⟨_, (true), (by first | rfl | (simp; done) | (simp [*]; done)), H', ⟨by have := HJ3.out; have := HJ9.out; have := HJ15.out; have := HJ21.out; have := HK5.out; have := HJ35.out; first | omega | exact Nat.le_refl _⟩, ⟨by (with_reducible repeat (first | apply Kd.R_alloc | apply Kd.R_drewN | apply Kd.R_drew)); exact HO_7.out⟩, ⟨by repeat (first | (with_reducible first | exact HB.out | apply below_alloc | apply pw_below_drewN | apply below_drew1) | exact HB.out)⟩⟩
                                                  case rest =>
                                                    as_aux_lemma =>
                                                      clear HC45
                                                      try clear c1
                                                      try clear c2
                                                      try clear p2
                                                      try clear c3
                                                      try clear c4
                                                      try clear c6
                                                      try clear c6b0
                                                      try clear c6b1
                                                      try clear p6
                                                      try clear c7
                                                      try clear c7b0
                                                      try clear c7b1
                                                      try clear c8
                                                      try clear c8b0
                                                      try clear c8b1
                                                      try clear c12
                                                      try clear c12b0
                                                      try clear c13
                                                      try clear c13b0
                                                      try clear c13b1
                                                      try clear c14
                                                      try clear c14b0
                                                      try clear c14b1
                                                      try clear c18
                                                      try clear c18b0
                                                      try clear c18b1
                                                      try clear c24
                                                      try clear c24b0
                                                      try clear c24b1
                                                      try clear c25
                                                      try clear c25b0
                                                      try clear c25b1
                                                      try clear c27
                                                      try clear c27b0
                                                      try clear c27b1
                                                      try clear c28
                                                      try clear c31
                                                      try clear c32
                                                      try clear c33
                                                      try clear c33b0
                                                      try clear c34
                                                      try clear c36
                                                      try clear c38
                                                      try clear c39
                                                      try clear c40
                                                      try clear c40b0
                                                      try clear c40b1
                                                      try clear c41
                                                      try clear c41b0
                                                      try clear c41b1
                                                      try clear c42
                                                      try clear c43
                                                      try clear c43b0
                                                      try clear c43b1
                                                      try clear c46
                                                      try clear c46b0
                                                      try clear c46b1
                                                      try clear c47
                                                      try clear p2
                                                      try clear p6
                                                      obtain ⟨kq, x132_44, rfl, HA, HJ44, HO_7, HB⟩ := hcut
                                                      cases kq with
                                                      | zero => exact absurd HA.out (by simp [trestlelaw17_UtflibValid.j6])
                                                      | succ kj44 =>
                                                        have H := HA.out
                                                        clear HA
                                                        simp only [trestlelaw17_UtflibValid.j6] at H
                                                        by_cases c48 : x132_44 = true
                                                        · subst c48
                                                          have H1 : (some false) = some r := by rw [if_pos rfl] at H; exact H
                                                          clear H
                                                          have H := H1
                                                          clear H1
                                                          obtain rfl := Option.some.inj H
                                                          go_wp2
                                                          go_ret
                                                          exact ⟨by first | rfl | (simp [errW_none, errW_some] <;> rfl) | (simp [*, errW_none, errW_some] <;> rfl), by repeat (first | (with_reducible first | exact HB.out | apply below_alloc | apply pw_below_drewN | apply below_drew1) | exact HB.out)⟩
                                                        · replace c48 := Bool.eq_false_iff.mpr c48
                                                          subst c48
                                                          have H1 : (trestlelaw17_UtflibValid.j7 kj44 x0_9 t376) = some r := by rw [if_neg (show ¬ (false = true) by decide)] at H; exact H
                                                          clear H
                                                          have H := H1
                                                          clear H1
                                                          have H' := Aside0.mk H
                                                          clear H
                                                          go_wp2
                                                          go_meet
                                                          case rel => exact ⟨_, H', ⟨by have := HJ3.out; have := HJ9.out; have := HJ15.out; have := HJ21.out; have := HK5.out; have := HJ35.out; have := HJ44.out; first | omega | exact Nat.le_refl _⟩, ⟨by (with_reducible repeat (first | apply Kd.R_alloc | apply Kd.R_drewN | apply Kd.R_drew)); exact HO_7.out⟩, ⟨by repeat (first | (with_reducible first | exact HB.out | apply below_alloc | apply pw_below_drewN | apply below_drew1) | exact HB.out)⟩⟩
                                                · rw [if_neg c43] at H
                                                  have c43b0 : (x9_5 == (t376.length : Int)) = false := beq_eq_false_iff_ne.mpr c43
                                                  have c43b1 : (x9_5 != (t376.length : Int)) = true := bne_iff_ne.mpr c43
                                                  by_cases c49 : 0 ≤ x9_5
                                                  · rw [if_pos c49] at H
                                                    have c49b0 : decide (0 ≤ x9_5) = true := decide_eq_true c49
                                                    clear c49
                                                    by_cases c50 : x9_5 < (t376.length : Int)
                                                    · rw [if_pos c50] at H
                                                      have c50b0 : decide (x9_5 < (t376.length : Int)) = true := decide_eq_true c50
                                                      clear c50
                                                      by_cases c51 : t380 = (wrap64 (((rd_T28 t376 x9_5).f0) + 1))
                                                      · rw [if_pos c51] at H
                                                        have c51b0 : (t380 == (wrap64 (((rd_T28 t376 x9_5).f0) + 1))) = true := beq_iff_eq.mpr c51
                                                        have c51b1 : (t380 != (wrap64 (((rd_T28 t376 x9_5).f0) + 1))) = false := bne_eq_false_iff_eq.mpr c51
                                                        clear c51
                                                        by_cases c52 : t383 = t380
                                                        · rw [if_pos c52] at H
                                                          have c52b0 : (t383 == t380) = true := beq_iff_eq.mpr c52
                                                          have c52b1 : (t383 != t380) = false := bne_eq_false_iff_eq.mpr c52
                                                          clear c52
                                                          by_cases c53 : t384 = ((rd_T28 t376 x9_5).f2)
                                                          · rw [if_pos c53] at H
                                                            have c53b0 : (t384 == ((rd_T28 t376 x9_5).f2)) = true := beq_iff_eq.mpr c53
                                                            have c53b1 : (t384 != ((rd_T28 t376 x9_5).f2)) = false := bne_eq_false_iff_eq.mpr c53
                                                            clear c53
                                                            have H' := Aside0.mk H
                                                            clear H
                                                            have p390 : 0 ≤ (x9_5 : Int) := of_decide_eq_true (by first | (with_reducible assumption) | assumption)
                                                            have q390 : x9_5 < (t376.length : Int) := of_decide_eq_true (by first | (with_reducible assumption) | assumption)
                                                            obtain ⟨ad390, e390, hx390_0, hx390_1, hx390_2⟩ := at_T28 (Kd.R_reads' HO_7.out).2.2 x9_5 p390 q390
                                                            cases e390
                                                            replace p390 := eq_true p390
                                                            replace q390 := eq_true q390
                                                            have p391 : 0 ≤ (x9_5 : Int) := of_decide_eq_true (by first | (with_reducible assumption) | assumption)
                                                            have q391 : x9_5 < (t376.length : Int) := of_decide_eq_true (by first | (with_reducible assumption) | assumption)
                                                            obtain ⟨ad391, e391, hx391_0, hx391_1, hx391_2⟩ := at_T28 (Kd.R_reads' HO_7.out).2.2 x9_5 p391 q391
                                                            obtain rfl : ad390 = ad391 := (by injection e391)
                                                            replace p391 := eq_true p391
                                                            replace q391 := eq_true q391
                                                            go_wp2
                                                            go_roundg kj35
                                                            case measure => have := HJ3.out; have := HJ9.out; have := HJ15.out; have := HJ21.out; have := HK5.out; have := HJ35.out; omega
                                                            case rel => exact ⟨(t383), (wrap64 (x9_5 + 1)), (by first | rfl | (simp; done) | (simp [*]; done)), (by first | rfl | (simp; done) | (simp [*]; done)), H', ⟨by have := HJ3.out; have := HJ9.out; have := HJ15.out; have := HJ21.out; have := HK5.out; have := HJ35.out; omega⟩, ⟨by (with_reducible repeat (first | apply Kd.R_alloc | apply Kd.R_drewN | apply Kd.R_drew)); exact HO_7.out⟩, ⟨by repeat (first | (with_reducible first | exact HB.out | apply below_alloc | apply pw_below_drewN | apply below_drew1) | exact HB.out)⟩⟩
                                                          · rw [if_neg c53] at H
                                                            have c53b0 : (t384 == ((rd_T28 t376 x9_5).f2)) = false := beq_eq_false_iff_ne.mpr c53
                                                            have c53b1 : (t384 != ((rd_T28 t376 x9_5).f2)) = true := bne_iff_ne.mpr c53
                                                            obtain rfl := Option.some.inj H
                                                            have p390 : 0 ≤ (x9_5 : Int) := of_decide_eq_true (by first | (with_reducible assumption) | assumption)
                                                            have q390 : x9_5 < (t376.length : Int) := of_decide_eq_true (by first | (with_reducible assumption) | assumption)
                                                            obtain ⟨ad390, e390, hx390_0, hx390_1, hx390_2⟩ := at_T28 (Kd.R_reads' HO_7.out).2.2 x9_5 p390 q390
                                                            cases e390
                                                            replace p390 := eq_true p390
                                                            replace q390 := eq_true q390
                                                            have p391 : 0 ≤ (x9_5 : Int) := of_decide_eq_true (by first | (with_reducible assumption) | assumption)
                                                            have q391 : x9_5 < (t376.length : Int) := of_decide_eq_true (by first | (with_reducible assumption) | assumption)
                                                            obtain ⟨ad391, e391, hx391_0, hx391_1, hx391_2⟩ := at_T28 (Kd.R_reads' HO_7.out).2.2 x9_5 p391 q391
                                                            obtain rfl : ad390 = ad391 := (by injection e391)
                                                            replace p391 := eq_true p391
                                                            replace q391 := eq_true q391
                                                            go_wp2
                                                            go_ret
                                                            exact ⟨by first | rfl | (simp [errW_none, errW_some] <;> rfl) | (simp [*, errW_none, errW_some] <;> rfl), by repeat (first | (with_reducible first | exact HB.out | apply below_alloc | apply pw_below_drewN | apply below_drew1) | exact HB.out)⟩
                                                        · rw [if_neg c52] at H
                                                          have c52b0 : (t383 == t380) = false := beq_eq_false_iff_ne.mpr c52
                                                          have c52b1 : (t383 != t380) = true := bne_iff_ne.mpr c52
                                                          obtain rfl := Option.some.inj H
                                                          have p390 : 0 ≤ (x9_5 : Int) := of_decide_eq_true (by first | (with_reducible assumption) | assumption)
                                                          have q390 : x9_5 < (t376.length : Int) := of_decide_eq_true (by first | (with_reducible assumption) | assumption)
                                                          obtain ⟨ad390, e390, hx390_0, hx390_1, hx390_2⟩ := at_T28 (Kd.R_reads' HO_7.out).2.2 x9_5 p390 q390
                                                          cases e390
                                                          replace p390 := eq_true p390
                                                          replace q390 := eq_true q390
                                                          go_wp2
                                                          go_ret
                                                          exact ⟨by first | rfl | (simp [errW_none, errW_some] <;> rfl) | (simp [*, errW_none, errW_some] <;> rfl), by repeat (first | (with_reducible first | exact HB.out | apply below_alloc | apply pw_below_drewN | apply below_drew1) | exact HB.out)⟩
                                                      · rw [if_neg c51] at H
                                                        have c51b0 : (t380 == (wrap64 (((rd_T28 t376 x9_5).f0) + 1))) = false := beq_eq_false_iff_ne.mpr c51
                                                        have c51b1 : (t380 != (wrap64 (((rd_T28 t376 x9_5).f0) + 1))) = true := bne_iff_ne.mpr c51
                                                        obtain rfl := Option.some.inj H
                                                        have p390 : 0 ≤ (x9_5 : Int) := of_decide_eq_true (by first | (with_reducible assumption) | assumption)
                                                        have q390 : x9_5 < (t376.length : Int) := of_decide_eq_true (by first | (with_reducible assumption) | assumption)
                                                        obtain ⟨ad390, e390, hx390_0, hx390_1, hx390_2⟩ := at_T28 (Kd.R_reads' HO_7.out).2.2 x9_5 p390 q390
                                                        cases e390
                                                        replace p390 := eq_true p390
                                                        replace q390 := eq_true q390
                                                        go_wp2
                                                        go_ret
                                                        exact ⟨by first | rfl | (simp [errW_none, errW_some] <;> rfl) | (simp [*, errW_none, errW_some] <;> rfl), by repeat (first | (with_reducible first | exact HB.out | apply below_alloc | apply pw_below_drewN | apply below_drew1) | exact HB.out)⟩
                                                    · rw [if_neg c50] at H
                                                      exact absurd H (by simp)
                                                  · rw [if_neg c49] at H
                                                    exact absurd H (by simp)
                                      · rw [if_neg c33] at H
                                        have c33b0 : decide (x9_5 ≤ (t376.length : Int)) = false := decide_eq_false c33
                                        clear c33
                                        (first | rw [c33b0] | (simp only [i64_w, i32_w]; rw [c33b0]) | skip)
                                        have H' := Aside0.mk H
                                        clear H
                                        obtain ⟨Ao54, co54, eo54⟩ := Kd.R_slice HO_7.out
                                        subst eo54
                                        go_wp2
                                        go_meet
                                        case rel => exact ⟨_, H', ⟨by have := HJ3.out; have := HJ9.out; have := HJ15.out; have := HJ21.out; have := HK5.out; first | omega | exact Nat.le_refl _⟩, ⟨by (with_reducible repeat (first | apply Kd.R_alloc | apply Kd.R_drewN | apply Kd.R_drew)); exact HO_7.out⟩, ⟨by repeat (first | (with_reducible first | exact HB.out | apply below_alloc | apply pw_below_drewN | apply below_drew1) | exact HB.out)⟩⟩
                              case rest =>
                                as_aux_lemma =>
                                  clear HC32
                                  try clear c1
                                  try clear c2
                                  try clear p2
                                  try clear c3
                                  try clear p3
                                  try clear q3
                                  try clear hx3
                                  try clear c4
                                  try clear c5
                                  try clear c6
                                  try clear c6b0
                                  try clear c6b1
                                  try clear p6
                                  try clear c7
                                  try clear c7b0
                                  try clear c7b1
                                  try clear c8
                                  try clear c8b0
                                  try clear c8b1
                                  try clear c12
                                  try clear c12b0
                                  try clear c13
                                  try clear c13b0
                                  try clear c13b1
                                  try clear c14
                                  try clear c14b0
                                  try clear c14b1
                                  try clear c18
                                  try clear c18b0
                                  try clear c18b1
                                  try clear c24
                                  try clear c24b0
                                  try clear c24b1
                                  try clear c25
                                  try clear c25b0
                                  try clear c25b1
                                  try clear c27
                                  try clear c27b0
                                  try clear c27b1
                                  try clear c28
                                  try clear c31
                                  try clear c32
                                  try clear c33
                                  try clear c33b0
                                  try clear c34
                                  try clear c36
                                  try clear c38
                                  try clear c39
                                  try clear p39
                                  try clear q39
                                  try clear hx39
                                  try clear c40
                                  try clear c40b0
                                  try clear c40b1
                                  try clear c41
                                  try clear c41b0
                                  try clear c41b1
                                  try clear c42
                                  try clear c43
                                  try clear c43b0
                                  try clear c43b1
                                  try clear c46
                                  try clear c46b0
                                  try clear c46b1
                                  try clear c47
                                  try clear c48
                                  try clear c49
                                  try clear c49b0
                                  try clear c50
                                  try clear c50b0
                                  try clear c51
                                  try clear c51b0
                                  try clear c51b1
                                  try clear c52
                                  try clear c52b0
                                  try clear c52b1
                                  try clear c53
                                  try clear c53b0
                                  try clear c53b1
                                  try clear hx390_0
                                  try clear hx390_1
                                  try clear hx390_2
                                  try clear hx391_0
                                  try clear hx391_1
                                  try clear hx391_2
                                  try clear p2
                                  try clear p390
                                  try clear p391
                                  try clear p6
                                  try clear q390
                                  try clear q391
                                  obtain ⟨kq, HA, HJ31, HO_7, HB⟩ := hcut
                                  cases kq with
                                  | zero => exact absurd HA.out (by simp [trestlelaw17_UtflibValid.j7])
                                  | succ kj31 =>
                                    have H := HA.out
                                    clear HA
                                    simp only [trestlelaw17_UtflibValid.j7] at H
                                    by_cases c55 : (t376.length : Int) > 200
                                    · rw [if_pos c55] at H
                                      have c55b0 : decide (200 < (t376.length : Int)) = true := decide_eq_true c55
                                      have c55b1 : decide (200 < t376.length) = true := decide_eq_true (by omega)
                                      clear c55
                                      replace H := Option.bind_eq_some_iff.mp H
                                      obtain ⟨⟨t392, t393⟩, A560, H⟩ := H
                                      replace H : (some (t393 == 14)) = some r := H
                                      have A56 := Aside0.mk A560
                                      clear A560
                                      obtain rfl := Option.some.inj H
                                      obtain ⟨Ao57, co57, eo57⟩ := Kd.R_slice HO_7.out
                                      subst eo57
                                      go_wp2_with (first | ((with_reducible refine gate_callee (f := 42) rfl ?_); refine goesL_ (some 163) rfl rfl Tryd.func42 (by kernel_rfl) rfl #[.string x0_9, .int .i64 1, .int .i64 (x0_9.size : Int)] rfl (by (try simp only [List.map_toArray, List.map_cons, List.map_nil]); first | done | rfl | (simp only [List.length_drop, List.length_take]; rfl)) ?_; (with_reducible refine (utflib_Codes.calls x0_9 1 (x0_9.size : Int) t392 t393 _ A56.out ?hT_).mono ?_); (case hT_ => exact tab_step HT_ (by repeat (first | (with_reducible first | exact HB.out | apply below_alloc | apply pw_below_drewN | apply below_drew1) | exact HB.out))); rintro e w58 ⟨v394, rfl, ho0, hb⟩; refine ⟨_, rfl, ?_⟩; have n0_ := Aside0.mk (Kd.R_below (by (with_reducible repeat (first | apply Kd.R_alloc | apply Kd.R_drewN | apply Kd.R_drew)); exact HO_7.out) hb); have n1_ := Aside0.mk (Kd.R_lower ho0 (below_size (by repeat (first | (with_reducible first | exact HB.out | apply below_alloc | apply pw_below_drewN | apply below_drew1) | exact HB.out)))); have n2_ := Aside0.mk (below_step (by repeat (first | (with_reducible first | exact HB.out | apply below_alloc | apply pw_below_drewN | apply below_drew1) | exact HB.out)) hb); clear HO_7; clear HB; have HO_7 := n0_; have HO395 := n1_; have HB := n2_; clear n0_ n1_ n2_; (try clear hb); (try clear hb2); (try clear hk); (try clear hi); (try clear ho0)))
                                      go_ret
                                      exact ⟨by first | rfl | (simp [errW_none, errW_some] <;> rfl) | (simp [*, errW_none, errW_some] <;> rfl), by repeat (first | (with_reducible first | exact HB.out | apply below_alloc | apply pw_below_drewN | apply below_drew1) | exact HB.out)⟩
                                    · rw [if_neg c55] at H
                                      have c55b0 : decide (200 < (t376.length : Int)) = false := decide_eq_false c55
                                      have c55b1 : decide (200 < t376.length) = false := decide_eq_false (by omega)
                                      clear c55
                                      replace H := Option.bind_eq_some_iff.mp H
                                      obtain ⟨⟨t396, t397⟩, A590, H⟩ := H
                                      replace H : ((utflib_Char.f t396).bind fun bt400 => (if t397 = 0 then (if bt400.2 = 0 then (some (bt400.1.toList == x0_9.toList)) else (some false)) else (some false))) = some r := H
                                      have A59 := Aside0.mk A590
                                      clear A590
                                      replace H := Option.bind_eq_some_iff.mp H
                                      obtain ⟨⟨t400, t401⟩, A600, H⟩ := H
                                      replace H : (if t397 = 0 then (if t401 = 0 then (some (t400.toList == x0_9.toList)) else (some false)) else (some false)) = some r := H
                                      have A60 := Aside0.mk A600
                                      clear A600
                                      by_cases c61 : t397 = 0
                                      · rw [if_pos c61] at H
                                        have c61b0 : (t397 == 0) = true := beq_iff_eq.mpr c61
                                        have c61b1 : (t397 != 0) = false := bne_eq_false_iff_eq.mpr c61
                                        clear c61
                                        by_cases c62 : t401 = 0
                                        · rw [if_pos c62] at H
                                          have c62b0 : (t401 == 0) = true := beq_iff_eq.mpr c62
                                          have c62b1 : (t401 != 0) = false := bne_eq_false_iff_eq.mpr c62
                                          clear c62
                                          obtain rfl := Option.some.inj H
                                          obtain ⟨Ao63, co63, eo63⟩ := Kd.R_slice HO_7.out
                                          subst eo63
                                          go_wp2_with (first | ((with_reducible refine gate_callee (f := 42) rfl ?_); refine goesL_ (some 172) rfl rfl Tryd.func42 (by kernel_rfl) rfl #[.string x0_9, .int .i64 1, .int .i64 (x0_9.size : Int)] rfl (by (try simp only [List.map_toArray, List.map_cons, List.map_nil]); first | done | rfl | (simp only [List.length_drop, List.length_take]; rfl)) ?_; (with_reducible refine (utflib_Codes.calls x0_9 1 (x0_9.size : Int) t396 t397 _ A59.out ?hT_).mono ?_); (case hT_ => exact tab_step HT_ (by repeat (first | (with_reducible first | exact HB.out | apply below_alloc | apply pw_below_drewN | apply below_drew1) | exact HB.out))); rintro e w64 ⟨v398, rfl, ho0, hb⟩; refine ⟨_, rfl, ?_⟩; have n0_ := Aside0.mk (Kd.R_below (by (with_reducible repeat (first | apply Kd.R_alloc | apply Kd.R_drewN | apply Kd.R_drew)); exact HO_7.out) hb); have n1_ := Aside0.mk (Kd.R_lower ho0 (below_size (by repeat (first | (with_reducible first | exact HB.out | apply below_alloc | apply pw_below_drewN | apply below_drew1) | exact HB.out)))); have n2_ := Aside0.mk (below_step (by repeat (first | (with_reducible first | exact HB.out | apply below_alloc | apply pw_below_drewN | apply below_drew1) | exact HB.out)) hb); clear HO_7; clear HB; have HO_7 := n0_; have HO399 := n1_; have HB := n2_; clear n0_ n1_ n2_; (try clear hb); (try clear hb2); (try clear hk); (try clear hi); (try clear ho0); obtain ⟨Ao65, co65, eo65⟩ := Kd.R_slice HO399.out; subst eo65) | ((with_reducible refine gate_callee (f := 30) rfl ?_); refine goesL_ (some 177) rfl rfl Tryd.func30 (by kernel_rfl) rfl #[.slice Ao65 t396.length co65] rfl (by (try simp only [List.map_toArray, List.map_cons, List.map_nil]); first | done | rfl | (simp only [List.length_drop, List.length_take]; rfl)) ?_; (with_reducible refine (utflib_Char.calls _ _ t396 t400 t401 _ ?side1 ?side2 A60.out).mono ?_); (case side1 => repeat (first | exact (Kd.R_reads' HO399.out).2.2 | (with_reducible refine Kd.C_alloc ?_ _) | (with_reducible refine Kd.C_drewN ?_ _) | (with_reducible refine Kd.C_drew ?_))); (case side2 => exact (Kd.R_reads' HO399.out).2.1); rintro e w66 ⟨rfl, hb⟩; refine ⟨_, rfl, ?_⟩; have n0_ := Aside0.mk (Kd.R_below (by (with_reducible repeat (first | apply Kd.R_alloc | apply Kd.R_drewN | apply Kd.R_drew)); exact HO_7.out) hb); have n1_ := Aside0.mk (Kd.R_below (by (with_reducible repeat (first | apply Kd.R_alloc | apply Kd.R_drewN | apply Kd.R_drew)); exact HO399.out) hb); have n2_ := Aside0.mk (below_step (by repeat (first | (with_reducible first | exact HB.out | apply below_alloc | apply pw_below_drewN | apply below_drew1) | exact HB.out)) hb); clear HO_7; clear HO399; clear HB; have HO_7 := n0_; have HO399 := n1_; have HB := n2_; clear n0_ n1_ n2_; (try clear hb); (try clear hb2); (try clear hk); (try clear hi)))
                                          go_ret
                                          exact ⟨by first | rfl | (simp [errW_none, errW_some] <;> rfl) | (simp [*, errW_none, errW_some] <;> rfl), by repeat (first | (with_reducible first | exact HB.out | apply below_alloc | apply pw_below_drewN | apply below_drew1) | exact HB.out)⟩
                                        · rw [if_neg c62] at H
                                          have c62b0 : (t401 == 0) = false := beq_eq_false_iff_ne.mpr c62
                                          have c62b1 : (t401 != 0) = true := bne_iff_ne.mpr c62
                                          obtain rfl := Option.some.inj H
                                          obtain ⟨Ao67, co67, eo67⟩ := Kd.R_slice HO_7.out
                                          subst eo67
                                          go_wp2_with (first | ((with_reducible refine gate_callee (f := 42) rfl ?_); refine goesL_ (some 172) rfl rfl Tryd.func42 (by kernel_rfl) rfl #[.string x0_9, .int .i64 1, .int .i64 (x0_9.size : Int)] rfl (by (try simp only [List.map_toArray, List.map_cons, List.map_nil]); first | done | rfl | (simp only [List.length_drop, List.length_take]; rfl)) ?_; (with_reducible refine (utflib_Codes.calls x0_9 1 (x0_9.size : Int) t396 t397 _ A59.out ?hT_).mono ?_); (case hT_ => exact tab_step HT_ (by repeat (first | (with_reducible first | exact HB.out | apply below_alloc | apply pw_below_drewN | apply below_drew1) | exact HB.out))); rintro e w68 ⟨v398, rfl, ho0, hb⟩; refine ⟨_, rfl, ?_⟩; have n0_ := Aside0.mk (Kd.R_below (by (with_reducible repeat (first | apply Kd.R_alloc | apply Kd.R_drewN | apply Kd.R_drew)); exact HO_7.out) hb); have n1_ := Aside0.mk (Kd.R_lower ho0 (below_size (by repeat (first | (with_reducible first | exact HB.out | apply below_alloc | apply pw_below_drewN | apply below_drew1) | exact HB.out)))); have n2_ := Aside0.mk (below_step (by repeat (first | (with_reducible first | exact HB.out | apply below_alloc | apply pw_below_drewN | apply below_drew1) | exact HB.out)) hb); clear HO_7; clear HB; have HO_7 := n0_; have HO399 := n1_; have HB := n2_; clear n0_ n1_ n2_; (try clear hb); (try clear hb2); (try clear hk); (try clear hi); (try clear ho0); obtain ⟨Ao69, co69, eo69⟩ := Kd.R_slice HO399.out; subst eo69) | ((with_reducible refine gate_callee (f := 30) rfl ?_); refine goesL_ (some 177) rfl rfl Tryd.func30 (by kernel_rfl) rfl #[.slice Ao69 t396.length co69] rfl (by (try simp only [List.map_toArray, List.map_cons, List.map_nil]); first | done | rfl | (simp only [List.length_drop, List.length_take]; rfl)) ?_; (with_reducible refine (utflib_Char.calls _ _ t396 t400 t401 _ ?side1 ?side2 A60.out).mono ?_); (case side1 => repeat (first | exact (Kd.R_reads' HO399.out).2.2 | (with_reducible refine Kd.C_alloc ?_ _) | (with_reducible refine Kd.C_drewN ?_ _) | (with_reducible refine Kd.C_drew ?_))); (case side2 => exact (Kd.R_reads' HO399.out).2.1); rintro e w70 ⟨rfl, hb⟩; refine ⟨_, rfl, ?_⟩; have n0_ := Aside0.mk (Kd.R_below (by (with_reducible repeat (first | apply Kd.R_alloc | apply Kd.R_drewN | apply Kd.R_drew)); exact HO_7.out) hb); have n1_ := Aside0.mk (Kd.R_below (by (with_reducible repeat (first | apply Kd.R_alloc | apply Kd.R_drewN | apply Kd.R_drew)); exact HO399.out) hb); have n2_ := Aside0.mk (below_step (by repeat (first | (with_reducible first | exact HB.out | apply below_alloc | apply pw_below_drewN | apply below_drew1) | exact HB.out)) hb); clear HO_7; clear HO399; clear HB; have HO_7 := n0_; have HO399 := n1_; have HB := n2_; clear n0_ n1_ n2_; (try clear hb); (try clear hb2); (try clear hk); (try clear hi)))
                                          go_ret
                                          exact ⟨by first | rfl | (simp [errW_none, errW_some] <;> rfl) | (simp [*, errW_none, errW_some] <;> rfl), by repeat (first | (with_reducible first | exact HB.out | apply below_alloc | apply pw_below_drewN | apply below_drew1) | exact HB.out)⟩
                                      · rw [if_neg c61] at H
                                        have c61b0 : (t397 == 0) = false := beq_eq_false_iff_ne.mpr c61
                                        have c61b1 : (t397 != 0) = true := bne_iff_ne.mpr c61
                                        obtain rfl := Option.some.inj H
                                        obtain ⟨Ao71, co71, eo71⟩ := Kd.R_slice HO_7.out
                                        subst eo71
                                        go_wp2_with (first | ((with_reducible refine gate_callee (f := 42) rfl ?_); refine goesL_ (some 172) rfl rfl Tryd.func42 (by kernel_rfl) rfl #[.string x0_9, .int .i64 1, .int .i64 (x0_9.size : Int)] rfl (by (try simp only [List.map_toArray, List.map_cons, List.map_nil]); first | done | rfl | (simp only [List.length_drop, List.length_take]; rfl)) ?_; (with_reducible refine (utflib_Codes.calls x0_9 1 (x0_9.size : Int) t396 t397 _ A59.out ?hT_).mono ?_); (case hT_ => exact tab_step HT_ (by repeat (first | (with_reducible first | exact HB.out | apply below_alloc | apply pw_below_drewN | apply below_drew1) | exact HB.out))); rintro e w72 ⟨v398, rfl, ho0, hb⟩; refine ⟨_, rfl, ?_⟩; have n0_ := Aside0.mk (Kd.R_below (by (with_reducible repeat (first | apply Kd.R_alloc | apply Kd.R_drewN | apply Kd.R_drew)); exact HO_7.out) hb); have n1_ := Aside0.mk (Kd.R_lower ho0 (below_size (by repeat (first | (with_reducible first | exact HB.out | apply below_alloc | apply pw_below_drewN | apply below_drew1) | exact HB.out)))); have n2_ := Aside0.mk (below_step (by repeat (first | (with_reducible first | exact HB.out | apply below_alloc | apply pw_below_drewN | apply below_drew1) | exact HB.out)) hb); clear HO_7; clear HB; have HO_7 := n0_; have HO399 := n1_; have HB := n2_; clear n0_ n1_ n2_; (try clear hb); (try clear hb2); (try clear hk); (try clear hi); (try clear ho0); obtain ⟨Ao73, co73, eo73⟩ := Kd.R_slice HO399.out; subst eo73) | ((with_reducible refine gate_callee (f := 30) rfl ?_); refine goesL_ (some 177) rfl rfl Tryd.func30 (by kernel_rfl) rfl #[.slice Ao73 t396.length co73] rfl (by (try simp only [List.map_toArray, List.map_cons, List.map_nil]); first | done | rfl | (simp only [List.length_drop, List.length_take]; rfl)) ?_; (with_reducible refine (utflib_Char.calls _ _ t396 t400 t401 _ ?side1 ?side2 A60.out).mono ?_); (case side1 => repeat (first | exact (Kd.R_reads' HO399.out).2.2 | (with_reducible refine Kd.C_alloc ?_ _) | (with_reducible refine Kd.C_drewN ?_ _) | (with_reducible refine Kd.C_drew ?_))); (case side2 => exact (Kd.R_reads' HO399.out).2.1); rintro e w74 ⟨rfl, hb⟩; refine ⟨_, rfl, ?_⟩; have n0_ := Aside0.mk (Kd.R_below (by (with_reducible repeat (first | apply Kd.R_alloc | apply Kd.R_drewN | apply Kd.R_drew)); exact HO_7.out) hb); have n1_ := Aside0.mk (Kd.R_below (by (with_reducible repeat (first | apply Kd.R_alloc | apply Kd.R_drewN | apply Kd.R_drew)); exact HO399.out) hb); have n2_ := Aside0.mk (below_step (by repeat (first | (with_reducible first | exact HB.out | apply below_alloc | apply pw_below_drewN | apply below_drew1) | exact HB.out)) hb); clear HO_7; clear HO399; clear HB; have HO_7 := n0_; have HO399 := n1_; have HB := n2_; clear n0_ n1_ n2_; (try clear hb); (try clear hb2); (try clear hk); (try clear hi)))
                                        go_ret
                                        exact ⟨by first | rfl | (simp [errW_none, errW_some] <;> rfl) | (simp [*, errW_none, errW_some] <;> rfl), by repeat (first | (with_reducible first | exact HB.out | apply below_alloc | apply pw_below_drewN | apply below_drew1) | exact HB.out)⟩
  · replace c3 := Bool.eq_false_iff.mpr c3
    subst c3
    have H1 : (some false) = some r := by rw [if_neg (show ¬ (false = true) by decide)] at H; exact H
    clear H
    have H := H1
    clear H1
    obtain rfl := Option.some.inj H
    go_enter Tryd.func12, Tryd.ntmps12
    go_wp2_with (first | ((with_reducible refine gate_callee (f := 32) rfl ?_); refine goesL_ (some 20) rfl rfl Tryd.func32 (by kernel_rfl) rfl #[] rfl (by (try simp only [List.map_toArray, List.map_cons, List.map_nil]); first | done | rfl | (simp only [List.length_drop, List.length_take]; rfl)) ?_; (with_reducible refine (trestlelaw17_fixed.calls k  false _ A2.out ?hT_).mono ?_); (case hT_ => exact tab_step HT_ (by repeat (first | (with_reducible first | exact HB.out | apply below_alloc | apply pw_below_drewN | apply below_drew1) | exact HB.out))); rintro e w75 ⟨rfl, hb⟩; refine ⟨_, rfl, ?_⟩; have n0_ := Aside0.mk (below_step (by repeat (first | (with_reducible first | exact HB.out | apply below_alloc | apply pw_below_drewN | apply below_drew1) | exact HB.out)) hb); clear HB; have HB := n0_; clear n0_; (try clear hb); (try clear hb2); (try clear hk); (try clear hi)))
    go_ret
    exact ⟨by first | rfl | (simp [errW_none, errW_some] <;> rfl) | (simp [*, errW_none, errW_some] <;> rfl), by repeat (first | (with_reducible first | exact HB.out | apply below_alloc | apply pw_below_drewN | apply below_drew1) | exact HB.out)⟩

/-- THE ONE PURE STATEMENT of trestlelaw17_UtflibValid: yours. -/
def trestlelaw17_UtflibValid.Pure : Prop := ∀ (a0 : ByteArray), a0.size ≤ 140737488351232 → ∃ k, trestlelaw17_UtflibValid.f k a0 = some true
theorem trestlelaw17_UtflibValid.walk (P : trestlelaw17_UtflibValid.Pure) (a0 : ByteArray) (w : World) (w0 : a0.size ≤ 140737488351232) (HT_ : RowKit.Hid (Lib.Utf8Tabs 0 1 w)) :
    Calls Tryd.prog 12 #[.string a0] w fun e w' => e = .returned (.bool true) ∧ Below w.heap.size w w' := by
  obtain ⟨k, h⟩ := P a0 w0
  refine (trestlelaw17_UtflibValid.calls k a0 true w h HT_).mono ?_
  rintro e w' ⟨rfl, hd⟩
  exact ⟨rfl, hd⟩

end Go.Proofs.YtlmmhlabacghnaaDoor.PR
