-- Written by a program of this session's (the kit's print, turned), out of the translation.
import Derived.Test.YtaoippnipcchmaaGreatDoorPTx0
namespace Go.Proofs.YtaoippnipcchmaaGreatDoor.PT
open Go.RowKit Go.Proofs.YtaoippnipcchmaaGreatDoorW.PrintWords Go.Proofs.YtaoippnipcchmaaGreatDoorW.PrintLast Go.Proofs.YtaoippnipcchmaaGreatDoorW.PrintMore
attribute [local go_sem] max2_int min2_int max_two min_two max_three min_three max_four min_four   -- for this text's walks alone
set_option linter.unusedVariables false
set_option linter.unusedSimpArgs false

/-! ### trestletop_run: function 6 -/
mutual
def trestletop_run.l0 : Nat → List Int → Int → Int → ByteArray → Int → Int → List (S67) → List (S65) → Option (Int × Bool)
  | 0, _, _, _, _, _, _, _, _ => none
  | k + 1, x4, x5, x6, x153000, x153001, x153002, x153003, x153004 => if x6 < 10000 then (if x5 ≥ 0 then (trestletop_run.j1 k x4 x5 x6 (decide (x5 < (x153004.length : Int))) x153000 x153001 x153002 x153003 x153004) else (trestletop_run.j1 k x4 x5 x6 false x153000 x153001 x153002 x153003 x153004)) else (trestletop_run.j1 k x4 x5 x6 false x153000 x153001 x153002 x153003 x153004)
def trestletop_run.j1 : Nat → List Int → Int → Int → Bool → ByteArray → Int → Int → List (S67) → List (S65) → Option (Int × Bool)
  | 0, _, _, _, _, _, _, _, _, _ => none
  | k + 1, x4, x5, x6, x24, x153000, x153001, x153002, x153003, x153004 => if x24 = true then (if 0 ≤ x5 then (if x5 < (x153004.length : Int) then (if ((rd_T65 x153004 x5).f0) = 1 then (trestletop_run.j2 k x4 (wrap64 (x5 + 1)) x6 (x4.length : Int) ((rd_T65 x153004 x5).f0) (((rd_T65 x153004 x5).f0) == 1) x153000 x153001 x153002 x153003 x153004 ((rd_T65 x153004 x5).f0) ((rd_T65 x153004 x5).f1) ((rd_T65 x153004 x5).f2) ((rd_T65 x153004 x5).f3)) else (trestletop_run.j2 k x4 (wrap64 (x5 + 1)) x6 (x4.length : Int) ((rd_T65 x153004 x5).f0) (((rd_T65 x153004 x5).f0) == 22) x153000 x153001 x153002 x153003 x153004 ((rd_T65 x153004 x5).f0) ((rd_T65 x153004 x5).f1) ((rd_T65 x153004 x5).f2) ((rd_T65 x153004 x5).f3))) else (none)) else (none)) else (some (0, false))
def trestletop_run.j2 : Nat → List Int → Int → Int → Int → Int → Bool → ByteArray → Int → Int → List (S67) → List (S65) → Int → Int → Int → Int → Option (Int × Bool)
  | 0, _, _, _, _, _, _, _, _, _, _, _, _, _, _, _ => none
  | k + 1, x4, x5, x6, x8, x37, x38, x153000, x153001, x153002, x153003, x153004, x155000, x155001, x155002, x155003 => if x38 = true then (trestletop_run.l0 k x4 x5 (wrap64 (x6 + 1)) x153000 x153001 x153002 x153003 x153004) else (if x37 = 2 then (if x155001 < 1 then (some (0, false)) else (if x155001 > (x153003.length : Int) then (some (0, false)) else (if 0 ≤ (wrap64 (x155001 - 1)) then (if (wrap64 (x155001 - 1)) < (x153003.length : Int) then (if ((rd_T67 x153003 (wrap64 (x155001 - 1))).f0) = 2 then (if x4.length < 17592186044416 then (trestletop_run.l0 k (x4 ++ [(rd_T67 x153003 (wrap64 (x155001 - 1))).f1]) x5 (wrap64 (x6 + 1)) x153000 x153001 x153002 x153003 x153004) else (none)) else (some (0, false))) else (none)) else (none)))) else (if x37 = 16 then (if x8 < 1 then (some (0, false)) else (if x155001 = 3 then (if 0 ≤ (wrap64 (x8 - 1)) then (if (wrap64 (x8 - 1)) < (x4.length : Int) then (trestletop_run.l0 k (x4.set ((wrap64 (x8 - 1)) : Int).toNat (wrap64 (-(rd x4 (wrap64 (x8 - 1)))))) x5 (wrap64 (x6 + 1)) x153000 x153001 x153002 x153003 x153004) else (none)) else (none)) else (some (0, false)))) else (if x37 = 17 then (if x8 < 2 then (trestletop_run.j3 k x4 x5 x6 x8 true x153000 x153001 x153002 x153003 x153004 x155000 x155001 x155002 x155003) else (if x155001 < 1 then (trestletop_run.j3 k x4 x5 x6 x8 true x153000 x153001 x153002 x153003 x153004 x155000 x155001 x155002 x155003) else (trestletop_run.j3 k x4 x5 x6 x8 (decide (x155001 > 3)) x153000 x153001 x153002 x153003 x153004 x155000 x155001 x155002 x155003))) else (if x37 = 20 then (if x8 < 1 then (some (0, false)) else (if 0 ≤ (wrap64 (x8 - 1)) then (if (wrap64 (x8 - 1)) ≤ (x4.length : Int) then (trestletop_run.l0 k (x4.take ((wrap64 (x8 - 1)) : Int).toNat) x5 (wrap64 (x6 + 1)) x153000 x153001 x153002 x153003 x153004) else (none)) else (none))) else (if x37 = 21 then (trestletop_run.l0 k x4 x155001 (wrap64 (x6 + 1)) x153000 x153001 x153002 x153003 x153004) else (if x37 = 25 then (if x8 = 1 then (if 0 < (x4.length : Int) then (some (rd x4 0, true)) else (none)) else (some (0, false))) else (some (0, false))))))))
def trestletop_run.j3 : Nat → List Int → Int → Int → Int → Bool → ByteArray → Int → Int → List (S67) → List (S65) → Int → Int → Int → Int → Option (Int × Bool)
  | 0, _, _, _, _, _, _, _, _, _, _, _, _, _, _ => none
  | k + 1, x4, x5, x6, x8, x108, x153000, x153001, x153002, x153003, x153004, x155000, x155001, x155002, x155003 => if x108 = true then (some (0, false)) else (if 0 ≤ (wrap64 (x8 - 2)) then (if (wrap64 (x8 - 2)) < (x4.length : Int) then (if 0 ≤ (wrap64 (x8 - 1)) then (if (wrap64 (x8 - 1)) < (x4.length : Int) then (if x155001 = 2 then (if x155001 = 3 then (if (wrap64 (x8 - 2)) ≤ (x4.length : Int) then ((some (x4.take ((wrap64 (x8 - 2)) : Int).toNat : List Int)).bind fun y164 => (if y164.length < 17592186044416 then (trestletop_run.l0 k (y164 ++ [wrap64 ((rd x4 (wrap64 (x8 - 2))) * (rd x4 (wrap64 (x8 - 1))))]) x5 (wrap64 (x6 + 1)) x153000 x153001 x153002 x153003 x153004) else (none))) else (none)) else (if (wrap64 (x8 - 2)) ≤ (x4.length : Int) then ((some (x4.take ((wrap64 (x8 - 2)) : Int).toNat : List Int)).bind fun y170 => (if y170.length < 17592186044416 then (trestletop_run.l0 k (y170 ++ [wrap64 ((rd x4 (wrap64 (x8 - 2))) - (rd x4 (wrap64 (x8 - 1))))]) x5 (wrap64 (x6 + 1)) x153000 x153001 x153002 x153003 x153004) else (none))) else (none))) else (if x155001 = 3 then (if (wrap64 (x8 - 2)) ≤ (x4.length : Int) then ((some (x4.take ((wrap64 (x8 - 2)) : Int).toNat : List Int)).bind fun y176 => (if y176.length < 17592186044416 then (trestletop_run.l0 k (y176 ++ [wrap64 ((rd x4 (wrap64 (x8 - 2))) * (rd x4 (wrap64 (x8 - 1))))]) x5 (wrap64 (x6 + 1)) x153000 x153001 x153002 x153003 x153004) else (none))) else (none)) else (if (wrap64 (x8 - 2)) ≤ (x4.length : Int) then ((some (x4.take ((wrap64 (x8 - 2)) : Int).toNat : List Int)).bind fun y182 => (if y182.length < 17592186044416 then (trestletop_run.l0 k (y182 ++ [wrap64 ((rd x4 (wrap64 (x8 - 2))) + (rd x4 (wrap64 (x8 - 1))))]) x5 (wrap64 (x6 + 1)) x153000 x153001 x153002 x153003 x153004) else (none))) else (none)))) else (none)) else (none)) else (none)) else (none))
end
def trestletop_run.f (k : Nat) (a0_0 : ByteArray) (a0_1 : Int) (a0_2 : Int) (l0_3 : List (S67)) (l0_4 : List (S65)) : Option (Int × Bool) := trestletop_run.l0 k ([] : List Int) 0 0 a0_0 a0_1 a0_2 l0_3 l0_4
theorem trestletop_run.mono_l : ∀ k, (∀ y0 y1 y2 y3 y4 y5 y6 y7, LeO (trestletop_run.l0 k y0 y1 y2 y3 y4 y5 y6 y7) (trestletop_run.l0 (k + 1) y0 y1 y2 y3 y4 y5 y6 y7)) ∧ (∀ y0 y1 y2 y3 y4 y5 y6 y7 y8, LeO (trestletop_run.j1 k y0 y1 y2 y3 y4 y5 y6 y7 y8) (trestletop_run.j1 (k + 1) y0 y1 y2 y3 y4 y5 y6 y7 y8)) ∧ (∀ y0 y1 y2 y3 y4 y5 y6 y7 y8 y9 y10 y11 y12 y13 y14, LeO (trestletop_run.j2 k y0 y1 y2 y3 y4 y5 y6 y7 y8 y9 y10 y11 y12 y13 y14) (trestletop_run.j2 (k + 1) y0 y1 y2 y3 y4 y5 y6 y7 y8 y9 y10 y11 y12 y13 y14)) ∧ (∀ y0 y1 y2 y3 y4 y5 y6 y7 y8 y9 y10 y11 y12 y13, LeO (trestletop_run.j3 k y0 y1 y2 y3 y4 y5 y6 y7 y8 y9 y10 y11 y12 y13) (trestletop_run.j3 (k + 1) y0 y1 y2 y3 y4 y5 y6 y7 y8 y9 y10 y11 y12 y13))
  | 0 => ⟨fun _ _ _ _ _ _ _ _ r h => by simp [trestletop_run.l0] at h, fun _ _ _ _ _ _ _ _ _ r h => by simp [trestletop_run.j1] at h, fun _ _ _ _ _ _ _ _ _ _ _ _ _ _ _ r h => by simp [trestletop_run.j2] at h, fun _ _ _ _ _ _ _ _ _ _ _ _ _ _ r h => by simp [trestletop_run.j3] at h⟩
  | k + 1 => by
    obtain ⟨ih0, ih1, ih2, ih3⟩ := trestletop_run.mono_l k
    refine ⟨?_, ?_, ?_, ?_⟩
    · intro y0 y1 y2 y3 y4 y5 y6 y7
      unfold trestletop_run.l0
      repeat' first
      | (with_reducible exact ih0 _ _ _ _ _ _ _ _)
      | (with_reducible exact ih1 _ _ _ _ _ _ _ _ _)
      | (with_reducible exact ih2 _ _ _ _ _ _ _ _ _ _ _ _ _ _ _)
      | (with_reducible exact ih3 _ _ _ _ _ _ _ _ _ _ _ _ _ _)
      | (with_reducible exact LeO.refl _)
      | (with_reducible exact LeO.none _)
      | (with_reducible refine LeO.ite ?_ ?_)
      | (with_reducible refine LeO.bind ?_ (fun _ => ?_))
      | exact ih0 _ _ _ _ _ _ _ _
      | exact ih1 _ _ _ _ _ _ _ _ _
      | exact ih2 _ _ _ _ _ _ _ _ _ _ _ _ _ _ _
      | exact ih3 _ _ _ _ _ _ _ _ _ _ _ _ _ _
      | exact LeO.none _
      | refine LeO.ite ?_ ?_
      | refine LeO.bind ?_ (fun _ => ?_)
    · intro y0 y1 y2 y3 y4 y5 y6 y7 y8
      unfold trestletop_run.j1
      repeat' first
      | (with_reducible exact ih0 _ _ _ _ _ _ _ _)
      | (with_reducible exact ih1 _ _ _ _ _ _ _ _ _)
      | (with_reducible exact ih2 _ _ _ _ _ _ _ _ _ _ _ _ _ _ _)
      | (with_reducible exact ih3 _ _ _ _ _ _ _ _ _ _ _ _ _ _)
      | (with_reducible exact LeO.refl _)
      | (with_reducible exact LeO.none _)
      | (with_reducible refine LeO.ite ?_ ?_)
      | (with_reducible refine LeO.bind ?_ (fun _ => ?_))
      | exact ih0 _ _ _ _ _ _ _ _
      | exact ih1 _ _ _ _ _ _ _ _ _
      | exact ih2 _ _ _ _ _ _ _ _ _ _ _ _ _ _ _
      | exact ih3 _ _ _ _ _ _ _ _ _ _ _ _ _ _
      | exact LeO.none _
      | refine LeO.ite ?_ ?_
      | refine LeO.bind ?_ (fun _ => ?_)
    · intro y0 y1 y2 y3 y4 y5 y6 y7 y8 y9 y10 y11 y12 y13 y14
      unfold trestletop_run.j2
      repeat' first
      | (with_reducible exact ih0 _ _ _ _ _ _ _ _)
      | (with_reducible exact ih1 _ _ _ _ _ _ _ _ _)
      | (with_reducible exact ih2 _ _ _ _ _ _ _ _ _ _ _ _ _ _ _)
      | (with_reducible exact ih3 _ _ _ _ _ _ _ _ _ _ _ _ _ _)
      | (with_reducible exact LeO.refl _)
      | (with_reducible exact LeO.none _)
      | (with_reducible refine LeO.ite ?_ ?_)
      | (with_reducible refine LeO.bind ?_ (fun _ => ?_))
      | exact ih0 _ _ _ _ _ _ _ _
      | exact ih1 _ _ _ _ _ _ _ _ _
      | exact ih2 _ _ _ _ _ _ _ _ _ _ _ _ _ _ _
      | exact ih3 _ _ _ _ _ _ _ _ _ _ _ _ _ _
      | exact LeO.none _
      | refine LeO.ite ?_ ?_
      | refine LeO.bind ?_ (fun _ => ?_)
    · intro y0 y1 y2 y3 y4 y5 y6 y7 y8 y9 y10 y11 y12 y13
      unfold trestletop_run.j3
      repeat' first
      | (with_reducible exact ih0 _ _ _ _ _ _ _ _)
      | (with_reducible exact ih1 _ _ _ _ _ _ _ _ _)
      | (with_reducible exact ih2 _ _ _ _ _ _ _ _ _ _ _ _ _ _ _)
      | (with_reducible exact ih3 _ _ _ _ _ _ _ _ _ _ _ _ _ _)
      | (with_reducible exact LeO.refl _)
      | (with_reducible exact LeO.none _)
      | (with_reducible refine LeO.ite ?_ ?_)
      | (with_reducible refine LeO.bind ?_ (fun _ => ?_))
      | exact ih0 _ _ _ _ _ _ _ _
      | exact ih1 _ _ _ _ _ _ _ _ _
      | exact ih2 _ _ _ _ _ _ _ _ _ _ _ _ _ _ _
      | exact ih3 _ _ _ _ _ _ _ _ _ _ _ _ _ _
      | exact LeO.none _
      | refine LeO.ite ?_ ?_
      | refine LeO.bind ?_ (fun _ => ?_)
theorem trestletop_run.mono : ∀ a0 a1 a2 a3 a4 k, LeO (trestletop_run.f k a0 a1 a2 a3 a4) (trestletop_run.f (k + 1) a0 a1 a2 a3 a4) := by
  intro a0 a1 a2 a3 a4 k
  obtain ⟨ih0, ih1, ih2, ih3⟩ := trestletop_run.mono_l k
  unfold trestletop_run.f
  repeat' first
      | (with_reducible exact ih0 _ _ _ _ _ _ _ _)
      | (with_reducible exact ih1 _ _ _ _ _ _ _ _ _)
      | (with_reducible exact ih2 _ _ _ _ _ _ _ _ _ _ _ _ _ _ _)
      | (with_reducible exact ih3 _ _ _ _ _ _ _ _ _ _ _ _ _ _)
      | (with_reducible exact LeO.refl _)
      | (with_reducible exact LeO.none _)
      | (with_reducible refine LeO.ite ?_ ?_)
      | (with_reducible refine LeO.bind ?_ (fun _ => ?_))
      | exact ih0 _ _ _ _ _ _ _ _
      | exact ih1 _ _ _ _ _ _ _ _ _
      | exact ih2 _ _ _ _ _ _ _ _ _ _ _ _ _ _ _
      | exact ih3 _ _ _ _ _ _ _ _ _ _ _ _ _ _
      | exact LeO.none _
      | refine LeO.ite ?_ ?_
      | refine LeO.bind ?_ (fun _ => ?_)
set_option maxHeartbeats 8000000 in
set_option maxRecDepth 100000 in
theorem trestletop_run.calls (k : Nat) (a0_0 : ByteArray) (a0_1 : Int) (a0_2 : Int) (A0_3 : Option Addr) (c0_3 : Nat) (l0_3 : List (S67)) (A0_4 : Option Addr) (c0_4 : Nat) (l0_4 : List (S65)) (r1 : Int) (r2 : Bool) (w : World) (hr0_3 : Kd.C k67 w A0_3 l0_3.length l0_3) (hc0_3 : l0_3.length ≤ c0_3) (hr0_4 : Kd.C k65 w A0_4 l0_4.length l0_4) (hc0_4 : l0_4.length ≤ c0_4) (h : trestletop_run.f k a0_0 a0_1 a0_2 l0_3 l0_4 = some (r1, r2)) :
    Calls Tryz.prog 6 #[.agg #[.string a0_0, .int .i64 a0_1, .int .i64 a0_2, .slice A0_3 l0_3.length c0_3, .slice A0_4 l0_4.length c0_4]] w fun e w' => e = .returned (.tuple #[.int .i64 r1, .bool r2]) ∧ Below w.heap.size w w' := by
  have hu39 := Tryz.underlying39
  have hu65 := Tryz.underlying65
  have HR0_3 := Aside0.mk hr0_3
  have HC0_3 := Aside0.mk hc0_3
  clear hr0_3 hc0_3
  have HR0_4 := Aside0.mk hr0_4
  have HC0_4 := Aside0.mk hc0_4
  clear hr0_4 hc0_4
  have HB := Aside0.mk (Below.refl w.heap.size w)
  have H : (trestletop_run.l0 k ([] : List Int) 0 0 a0_0 a0_1 a0_2 l0_3 l0_4) = some (r1, r2) := h
  clear h
  have H' := Aside0.mk H
  clear H
  go_enter Tryz.func6, Tryz.ntmps6
  go_wp2_with (first | ((with_reducible refine gate_dst (N := 1) rfl ?_); (try (refine gate_guard (by rfl) ?_; dsimp only)); refine box_event ?hg (N := 1) ?hd (cs := #[.string a0_0, .int .i64 a0_1, .int .i64 a0_2, .slice A0_3 l0_3.length c0_3, .slice A0_4 l0_4.length c0_4]) (t := 39) ?hr ?_; (case hd => rfl); (case hg => rfl); (case hr => first | (go_simp; done) | (go_simp; rfl)); intro gb152 hg w2 hbox hb; have n0_ := Aside0.mk (below_step (by repeat (first | (with_reducible first | exact HB.out | apply below_alloc | apply pw_below_drewN | apply below_drew1) | exact HB.out)) hb); have n1_ := Aside0.mk (hbox); have n2_ := Aside0.mk ((by rw [hg]; exact (below_size (by repeat (first | (with_reducible first | exact HB.out | apply below_alloc | apply pw_below_drewN | apply below_drew1) | exact HB.out))) : w.heap.size ≤ gb152)); have n3_ := Aside0.mk ((by rw [hg]; exact (below_size (by repeat (first | (with_reducible first | exact HB.out | apply below_alloc | apply pw_below_drewN | apply below_drew1) | exact HB.out))) : w.heap.size ≤ gb152)); clear HB; have HB := n0_; have BK152 := n1_; have GW152 := n2_; have GE152 := n3_; clear n0_ n1_ n2_ n3_; clear hb hbox hg))
  repeat (go_quiet (first | ((with_reducible refine gate_dst (N := 1) rfl ?_); (try (refine gate_guard (by rfl) ?_; dsimp only)); refine box_event ?hg (N := 1) ?hd (cs := #[.string a0_0, .int .i64 a0_1, .int .i64 a0_2, .slice A0_3 l0_3.length c0_3, .slice A0_4 l0_4.length c0_4]) (t := 39) ?hr ?_; (case hd => rfl); (case hg => rfl); (case hr => first | (go_simp; done) | (go_simp; rfl)); intro gb152 hg w2 hbox hb; have n0_ := Aside0.mk (below_step (by repeat (first | (with_reducible first | exact HB.out | apply below_alloc | apply pw_below_drewN | apply below_drew1) | exact HB.out)) hb); have n1_ := Aside0.mk (hbox); have n2_ := Aside0.mk ((by rw [hg]; exact (below_size (by repeat (first | (with_reducible first | exact HB.out | apply below_alloc | apply pw_below_drewN | apply below_drew1) | exact HB.out))) : w.heap.size ≤ gb152)); have n3_ := Aside0.mk ((by rw [hg]; exact (below_size (by repeat (first | (with_reducible first | exact HB.out | apply below_alloc | apply pw_below_drewN | apply below_drew1) | exact HB.out))) : w.heap.size ≤ gb152)); clear HB; have HB := n0_; have BK152 := n1_; have GW152 := n2_; have GE152 := n3_; clear n0_ n1_ n2_ n3_; clear hb hbox hg)); try go_wp2_with (first | ((with_reducible refine gate_dst (N := 1) rfl ?_); (try (refine gate_guard (by rfl) ?_; dsimp only)); refine box_event ?hg (N := 1) ?hd (cs := #[.string a0_0, .int .i64 a0_1, .int .i64 a0_2, .slice A0_3 l0_3.length c0_3, .slice A0_4 l0_4.length c0_4]) (t := 39) ?hr ?_; (case hd => rfl); (case hg => rfl); (case hr => first | (go_simp; done) | (go_simp; rfl)); intro gb152 hg w2 hbox hb; have n0_ := Aside0.mk (below_step (by repeat (first | (with_reducible first | exact HB.out | apply below_alloc | apply pw_below_drewN | apply below_drew1) | exact HB.out)) hb); have n1_ := Aside0.mk (hbox); have n2_ := Aside0.mk ((by rw [hg]; exact (below_size (by repeat (first | (with_reducible first | exact HB.out | apply below_alloc | apply pw_below_drewN | apply below_drew1) | exact HB.out))) : w.heap.size ≤ gb152)); have n3_ := Aside0.mk ((by rw [hg]; exact (below_size (by repeat (first | (with_reducible first | exact HB.out | apply below_alloc | apply pw_below_drewN | apply below_drew1) | exact HB.out))) : w.heap.size ≤ gb152)); clear HB; have HB := n0_; have BK152 := n1_; have GW152 := n2_; have GE152 := n3_; clear n0_ n1_ n2_ n3_; clear hb hbox hg)))
  go_loopg [4, 5, 6] k (fun kq v4 v5 v6 w' => ∃ (x4_1 : List Int) (x5_1 : Int) (x6_1 : Int), v5 = .int .i64 x5_1 ∧ v6 = .int .i64 x6_1 ∧ Aside0 (trestletop_run.l0 kq x4_1 x5_1 x6_1 a0_0 a0_1 a0_2 l0_3 l0_4 = some (r1, r2)) ∧ Aside0 (kq ≤ k) ∧ Aside0 (Kd.R (Kd.int .i64) 3 w' w.heap.size (fun _ => True) v4 x4_1) ∧ Aside0 (w'.heap[gb152]? = some (.cells #[.string a0_0, .int .i64 a0_1, .int .i64 a0_2, (.slice A0_3 l0_3.length c0_3), (.slice A0_4 l0_4.length c0_4)] 39 (0, 0))) ∧ Aside0 (Below w.heap.size w w'))
  case atStart => exact ⟨(([] : List Int)), (0), (0), (by first | rfl | (simp; done) | (simp [*]; done)), (by first | rfl | (simp; done) | (simp [*]; done)), H', ⟨Nat.le_refl _⟩, ⟨by first | exact Kd.R_nil _ _ _ _ _ | exact Kd.N_nil _ _ _ _ _ | exact Kd.V_nil _ _ _ _ _ | exact Kd.Q_nil _ _ _ _ _ | exact Kd.S_nil _ _ _ _ _⟩, ⟨by (with_reducible repeat (first | refine blk_drewN ?_ _ | refine blk_drew ?_ | refine blk_alloc ?_ _)); exact BK152.out⟩, ⟨by repeat (first | (with_reducible first | exact HB.out | apply below_alloc | apply pw_below_drewN | apply below_drew1 | refine below_set ?_ GE152.out) | exact HB.out)⟩⟩
  case round =>
    clear H'
    try clear p2
    obtain ⟨x4_1, x5_1, x6_1, rfl, rfl, HA, HK1, HO_4, BK152, HB⟩ := hrel
    cases gk with
    | zero => exact absurd HA.out (by simp [trestletop_run.l0])
    | succ k1 =>
      have H := HA.out
      clear HA
      simp only [trestletop_run.l0] at H
      have HC3 := Aside0.mk H
      clear H
      go_upto_region 4 with (fail)
      repeat (go_quiet (fail); go_upto_region 4 with (fail))
      go_cut [24] (fun v24 wc => ∃ (kq : Nat) (x24_2 : Bool), v24 = .bool x24_2 ∧ Aside0 (trestletop_run.j1 kq x4_1 x5_1 x6_1 x24_2 a0_0 a0_1 a0_2 l0_3 l0_4 = some (r1, r2)) ∧ Aside0 (kq ≤ k1) ∧ Aside0 (Kd.R (Kd.int .i64) 3 wc w.heap.size (fun _ => True) u4 x4_1) ∧ Aside0 (wc.heap[gb152]? = some (.cells #[.string a0_0, .int .i64 a0_1, .int .i64 a0_2, (.slice A0_3 l0_3.length c0_3), (.slice A0_4 l0_4.length c0_4)] 39 (0, 0))) ∧ Aside0 (Below w.heap.size w wc))
      case first =>
        have H := HC3.out
        clear HC3
        by_cases c4 : x6_1 < 10000
        · rw [if_pos c4] at H
          have c4b0 : decide (x6_1 < 10000) = true := decide_eq_true c4
          clear c4
          (first | rw [c4b0] | (simp only [i64_w, i32_w]; rw [c4b0]) | skip)
          by_cases c5 : x5_1 ≥ 0
          · rw [if_pos c5] at H
            have c5b0 : decide (0 ≤ x5_1) = true := decide_eq_true c5
            clear c5
            have H' := Aside0.mk H
            clear H
            have hcz6_0 : wr.cell? ⟨gb152, 0, none⟩ = some (.string a0_0) := (blk_cell BK152.out 0).trans rfl
            have hcz6_1 : wr.cell? ⟨gb152, 1, none⟩ = some (.int .i64 a0_1) := (blk_cell BK152.out 1).trans rfl
            have hcz6_2 : wr.cell? ⟨gb152, 2, none⟩ = some (.int .i64 a0_2) := (blk_cell BK152.out 2).trans rfl
            have hcz6_3 : wr.cell? ⟨gb152, 3, none⟩ = some (.slice A0_3 l0_3.length c0_3) := (blk_cell BK152.out 3).trans rfl
            have hcz6_4 : wr.cell? ⟨gb152, 4, none⟩ = some (.slice A0_4 l0_4.length c0_4) := (blk_cell BK152.out 4).trans rfl
            have hfz6_0 := blk_frozen BK152.out 0
            have hfz6_1 := blk_frozen BK152.out 1
            have hfz6_2 := blk_frozen BK152.out 2
            have hfz6_3 := blk_frozen BK152.out 3
            have hfz6_4 := blk_frozen BK152.out 4
            go_wp2
            repeat (go_quiet (fail); try go_wp2)
            go_meet
            case rel => exact ⟨_, (decide (x5_1 < (l0_4.length : Int))), (by first | rfl | (simp; done) | (simp [*]; done)), H', ⟨by have := HK1.out; first | omega | exact Nat.le_refl _⟩, ⟨by (with_reducible repeat (first | apply Kd.R_alloc | apply Kd.R_drewN | apply Kd.R_drew)); exact HO_4.out⟩, ⟨by (with_reducible repeat (first | refine blk_drewN ?_ _ | refine blk_drew ?_ | refine blk_alloc ?_ _)); exact BK152.out⟩, ⟨by repeat (first | (with_reducible first | exact HB.out | apply below_alloc | apply pw_below_drewN | apply below_drew1 | refine below_set ?_ GE152.out) | exact HB.out)⟩⟩
          · rw [if_neg c5] at H
            have c5b0 : decide (0 ≤ x5_1) = false := decide_eq_false c5
            clear c5
            have H' := Aside0.mk H
            clear H
            go_wp2
            repeat (go_quiet (fail); try go_wp2)
            go_meet
            case rel => exact ⟨_, (false), (by first | rfl | (simp; done) | (simp [*]; done)), H', ⟨by have := HK1.out; first | omega | exact Nat.le_refl _⟩, ⟨by (with_reducible repeat (first | apply Kd.R_alloc | apply Kd.R_drewN | apply Kd.R_drew)); exact HO_4.out⟩, ⟨by (with_reducible repeat (first | refine blk_drewN ?_ _ | refine blk_drew ?_ | refine blk_alloc ?_ _)); exact BK152.out⟩, ⟨by repeat (first | (with_reducible first | exact HB.out | apply below_alloc | apply pw_below_drewN | apply below_drew1 | refine below_set ?_ GE152.out) | exact HB.out)⟩⟩
        · rw [if_neg c4] at H
          have c4b0 : decide (x6_1 < 10000) = false := decide_eq_false c4
          clear c4
          (first | rw [c4b0] | (simp only [i64_w, i32_w]; rw [c4b0]) | skip)
          have H' := Aside0.mk H
          clear H
          go_wp2
          repeat (go_quiet (fail); try go_wp2)
          go_meet
          case rel => exact ⟨_, (false), (by first | rfl | (simp; done) | (simp [*]; done)), H', ⟨by have := HK1.out; first | omega | exact Nat.le_refl _⟩, ⟨by (with_reducible repeat (first | apply Kd.R_alloc | apply Kd.R_drewN | apply Kd.R_drew)); exact HO_4.out⟩, ⟨by (with_reducible repeat (first | refine blk_drewN ?_ _ | refine blk_drew ?_ | refine blk_alloc ?_ _)); exact BK152.out⟩, ⟨by repeat (first | (with_reducible first | exact HB.out | apply below_alloc | apply pw_below_drewN | apply below_drew1 | refine below_set ?_ GE152.out) | exact HB.out)⟩⟩
      case rest =>
        clear HC3
        try clear p2
        try clear c4
        try clear c4b0
        try clear c5
        try clear c5b0
        try clear c6
        try clear hcz6_0
        try clear hcz6_1
        try clear hcz6_2
        try clear hcz6_3
        try clear hcz6_4
        try clear hfz6_0
        try clear hfz6_1
        try clear hfz6_2
        try clear hfz6_3
        try clear hfz6_4
        try clear p2
        obtain ⟨kq, x24_2, rfl, HA, HJ2, HO_4, BK152, HB⟩ := hcut
        cases kq with
        | zero => exact absurd HA.out (by simp [trestletop_run.j1])
        | succ kj2 =>
          have H := HA.out
          clear HA
          simp only [trestletop_run.j1] at H
          by_cases c7 : x24_2 = true
          · subst c7
            have H1 : (if 0 ≤ x5_1 then (if x5_1 < (l0_4.length : Int) then (if ((rd_T65 l0_4 x5_1).f0) = 1 then (trestletop_run.j2 kj2 x4_1 (wrap64 (x5_1 + 1)) x6_1 (x4_1.length : Int) ((rd_T65 l0_4 x5_1).f0) (((rd_T65 l0_4 x5_1).f0) == 1) a0_0 a0_1 a0_2 l0_3 l0_4 ((rd_T65 l0_4 x5_1).f0) ((rd_T65 l0_4 x5_1).f1) ((rd_T65 l0_4 x5_1).f2) ((rd_T65 l0_4 x5_1).f3)) else (trestletop_run.j2 kj2 x4_1 (wrap64 (x5_1 + 1)) x6_1 (x4_1.length : Int) ((rd_T65 l0_4 x5_1).f0) (((rd_T65 l0_4 x5_1).f0) == 22) a0_0 a0_1 a0_2 l0_3 l0_4 ((rd_T65 l0_4 x5_1).f0) ((rd_T65 l0_4 x5_1).f1) ((rd_T65 l0_4 x5_1).f2) ((rd_T65 l0_4 x5_1).f3))) else (none)) else (none)) = some (r1, r2) := by rw [if_pos rfl] at H; exact H
            clear H
            have H := H1
            clear H1
            by_cases c8 : 0 ≤ x5_1
            · rw [if_pos c8] at H
              have c8b0 : decide (0 ≤ x5_1) = true := decide_eq_true c8
              clear c8
              by_cases c9 : x5_1 < (l0_4.length : Int)
              · rw [if_pos c9] at H
                have c9b0 : decide (x5_1 < (l0_4.length : Int)) = true := decide_eq_true c9
                clear c9
                have HC10 := Aside0.mk H
                clear H
                have hcz11_0 : wc.cell? ⟨gb152, 0, none⟩ = some (.string a0_0) := (blk_cell BK152.out 0).trans rfl
                have hcz11_1 : wc.cell? ⟨gb152, 1, none⟩ = some (.int .i64 a0_1) := (blk_cell BK152.out 1).trans rfl
                have hcz11_2 : wc.cell? ⟨gb152, 2, none⟩ = some (.int .i64 a0_2) := (blk_cell BK152.out 2).trans rfl
                have hcz11_3 : wc.cell? ⟨gb152, 3, none⟩ = some (.slice A0_3 l0_3.length c0_3) := (blk_cell BK152.out 3).trans rfl
                have hcz11_4 : wc.cell? ⟨gb152, 4, none⟩ = some (.slice A0_4 l0_4.length c0_4) := (blk_cell BK152.out 4).trans rfl
                have hfz11_0 := blk_frozen BK152.out 0
                have hfz11_1 := blk_frozen BK152.out 1
                have hfz11_2 := blk_frozen BK152.out 2
                have hfz11_3 := blk_frozen BK152.out 3
                have hfz11_4 := blk_frozen BK152.out 4
                have p153 : 0 ≤ (x5_1 : Int) := of_decide_eq_true (by first | (with_reducible assumption) | assumption)
                have q153 : x5_1 < (l0_4.length : Int) := of_decide_eq_true (by first | (with_reducible assumption) | assumption)
                obtain ⟨ad153, e153, hx153_0, hx153_1, hx153_2, hx153_3⟩ := at_T65 HR0_4.out x5_1 p153 q153
                cases e153
                replace hx153_0 := (HB.out.cell (World.block_lt_of_cell? w _ hx153_0)).trans hx153_0
                replace hx153_1 := (HB.out.cell (World.block_lt_of_cell? w _ hx153_1)).trans hx153_1
                replace hx153_2 := (HB.out.cell (World.block_lt_of_cell? w _ hx153_2)).trans hx153_2
                replace hx153_3 := (HB.out.cell (World.block_lt_of_cell? w _ hx153_3)).trans hx153_3
                replace p153 := eq_true p153
                replace q153 := eq_true q153
                go_upto_if 38 with (first | ((with_reducible refine gate_dst (N := 7) rfl ?_); (try (refine gate_guard (by rfl) ?_; dsimp only)); refine box_event ?hg (N := 7) ?hd (cs := #[.int .i64 0, .int .i64 0, .int .i64 0, .int .i64 0]) (t := 65) ?hr ?_; (case hd => rfl); (case hg => rfl); (case hr => first | (go_simp; done) | (go_simp; rfl)); intro gb154 hg w12 hbox hb; have n0_ := Aside0.mk (Kd.R_below (by (with_reducible repeat (first | apply Kd.R_alloc | apply Kd.R_drewN | apply Kd.R_drew)); exact HO_4.out) hb); have n1_ := Aside0.mk (blk_below (g := gb152) (o := .cells #[.string a0_0, .int .i64 a0_1, .int .i64 a0_2, .slice A0_3 l0_3.length c0_3, .slice (some ad153) l0_4.length c0_4] 39 (0, 0)) (by (with_reducible repeat (first | refine blk_drewN ?_ _ | refine blk_drew ?_ | refine blk_alloc ?_ _)); exact BK152.out) hb); have n2_ := Aside0.mk (below_step (by repeat (first | (with_reducible first | exact HB.out | apply below_alloc | apply pw_below_drewN | apply below_drew1 | refine below_set ?_ GE152.out) | exact HB.out)) hb); have n3_ := Aside0.mk (hbox); have n4_ := Aside0.mk ((by rw [hg]; exact (below_size (by repeat (first | (with_reducible first | exact HB.out | apply below_alloc | apply pw_below_drewN | apply below_drew1 | refine below_set ?_ GE152.out) | exact HB.out))) : w.heap.size ≤ gb154)); have n5_ := Aside0.mk ((by rw [hg]; exact (below_size (by repeat (first | (with_reducible first | exact HB.out | apply below_alloc | apply pw_below_drewN | apply below_drew1 | refine below_set ?_ GE152.out) | exact HB.out))) : w.heap.size ≤ gb154)); have n6_ := Aside0.mk ((by rw [hg]; exact Nat.ne_of_lt (blk_lt (g := gb152) (o := .cells #[.string a0_0, .int .i64 a0_1, .int .i64 a0_2, .slice A0_3 l0_3.length c0_3, .slice (some ad153) l0_4.length c0_4] 39 (0, 0)) (by (with_reducible repeat (first | refine blk_drewN ?_ _ | refine blk_drew ?_ | refine blk_alloc ?_ _)); exact BK152.out)) : gb152 ≠ gb154)); have n7_ := Aside0.mk ((by rw [hg]; exact Nat.ne_of_gt (blk_lt (g := gb152) (o := .cells #[.string a0_0, .int .i64 a0_1, .int .i64 a0_2, .slice A0_3 l0_3.length c0_3, .slice (some ad153) l0_4.length c0_4] 39 (0, 0)) (by (with_reducible repeat (first | refine blk_drewN ?_ _ | refine blk_drew ?_ | refine blk_alloc ?_ _)); exact BK152.out)) : gb154 ≠ gb152)); clear HO_4; clear BK152; clear HB; have HO_4 := n0_; have BK152 := n1_; have HB := n2_; have BK154 := n3_; have GW154 := n4_; have GE154 := n5_; have NB152_154 := n6_; have NB154_152 := n7_; clear n0_ n1_ n2_ n3_ n4_ n5_ n6_ n7_; clear hb hbox hg; have hnb13 := NB154_152.out; have hnc13 := NB152_154.out; have hcz14_0 : w12.cell? ⟨gb154, 0, none⟩ = some (.int .i64 0) := (blk_cell BK154.out 0).trans rfl; have hcz14_1 : w12.cell? ⟨gb154, 1, none⟩ = some (.int .i64 0) := (blk_cell BK154.out 1).trans rfl; have hcz14_2 : w12.cell? ⟨gb154, 2, none⟩ = some (.int .i64 0) := (blk_cell BK154.out 2).trans rfl; have hcz14_3 : w12.cell? ⟨gb154, 3, none⟩ = some (.int .i64 0) := (blk_cell BK154.out 3).trans rfl; have hfz14_0 := blk_frozen BK154.out 0; have hfz14_1 := blk_frozen BK154.out 1; have hfz14_2 := blk_frozen BK154.out 2; have hfz14_3 := blk_frozen BK154.out 3; obtain ⟨Ao15, co15, eo15⟩ := Kd.R_slice HO_4.out; subst eo15))
                repeat (go_quiet (first | ((with_reducible refine gate_dst (N := 7) rfl ?_); (try (refine gate_guard (by rfl) ?_; dsimp only)); refine box_event ?hg (N := 7) ?hd (cs := #[.int .i64 0, .int .i64 0, .int .i64 0, .int .i64 0]) (t := 65) ?hr ?_; (case hd => rfl); (case hg => rfl); (case hr => first | (go_simp; done) | (go_simp; rfl)); intro gb154 hg w12 hbox hb; have n0_ := Aside0.mk (Kd.R_below (by (with_reducible repeat (first | apply Kd.R_alloc | apply Kd.R_drewN | apply Kd.R_drew)); exact HO_4.out) hb); have n1_ := Aside0.mk (blk_below (g := gb152) (o := .cells #[.string a0_0, .int .i64 a0_1, .int .i64 a0_2, .slice A0_3 l0_3.length c0_3, .slice (some ad153) l0_4.length c0_4] 39 (0, 0)) (by (with_reducible repeat (first | refine blk_drewN ?_ _ | refine blk_drew ?_ | refine blk_alloc ?_ _)); exact BK152.out) hb); have n2_ := Aside0.mk (below_step (by repeat (first | (with_reducible first | exact HB.out | apply below_alloc | apply pw_below_drewN | apply below_drew1 | refine below_set ?_ GE152.out) | exact HB.out)) hb); have n3_ := Aside0.mk (hbox); have n4_ := Aside0.mk ((by rw [hg]; exact (below_size (by repeat (first | (with_reducible first | exact HB.out | apply below_alloc | apply pw_below_drewN | apply below_drew1 | refine below_set ?_ GE152.out) | exact HB.out))) : w.heap.size ≤ gb154)); have n5_ := Aside0.mk ((by rw [hg]; exact (below_size (by repeat (first | (with_reducible first | exact HB.out | apply below_alloc | apply pw_below_drewN | apply below_drew1 | refine below_set ?_ GE152.out) | exact HB.out))) : w.heap.size ≤ gb154)); have n6_ := Aside0.mk ((by rw [hg]; exact Nat.ne_of_lt (blk_lt (g := gb152) (o := .cells #[.string a0_0, .int .i64 a0_1, .int .i64 a0_2, .slice A0_3 l0_3.length c0_3, .slice (some ad153) l0_4.length c0_4] 39 (0, 0)) (by (with_reducible repeat (first | refine blk_drewN ?_ _ | refine blk_drew ?_ | refine blk_alloc ?_ _)); exact BK152.out)) : gb152 ≠ gb154)); have n7_ := Aside0.mk ((by rw [hg]; exact Nat.ne_of_gt (blk_lt (g := gb152) (o := .cells #[.string a0_0, .int .i64 a0_1, .int .i64 a0_2, .slice A0_3 l0_3.length c0_3, .slice (some ad153) l0_4.length c0_4] 39 (0, 0)) (by (with_reducible repeat (first | refine blk_drewN ?_ _ | refine blk_drew ?_ | refine blk_alloc ?_ _)); exact BK152.out)) : gb154 ≠ gb152)); clear HO_4; clear BK152; clear HB; have HO_4 := n0_; have BK152 := n1_; have HB := n2_; have BK154 := n3_; have GW154 := n4_; have GE154 := n5_; have NB152_154 := n6_; have NB154_152 := n7_; clear n0_ n1_ n2_ n3_ n4_ n5_ n6_ n7_; clear hb hbox hg; have hnb13 := NB154_152.out; have hnc13 := NB152_154.out; have hcz14_0 : w12.cell? ⟨gb154, 0, none⟩ = some (.int .i64 0) := (blk_cell BK154.out 0).trans rfl; have hcz14_1 : w12.cell? ⟨gb154, 1, none⟩ = some (.int .i64 0) := (blk_cell BK154.out 1).trans rfl; have hcz14_2 : w12.cell? ⟨gb154, 2, none⟩ = some (.int .i64 0) := (blk_cell BK154.out 2).trans rfl; have hcz14_3 : w12.cell? ⟨gb154, 3, none⟩ = some (.int .i64 0) := (blk_cell BK154.out 3).trans rfl; have hfz14_0 := blk_frozen BK154.out 0; have hfz14_1 := blk_frozen BK154.out 1; have hfz14_2 := blk_frozen BK154.out 2; have hfz14_3 := blk_frozen BK154.out 3; obtain ⟨Ao15, co15, eo15⟩ := Kd.R_slice HO_4.out; subst eo15)); go_upto_if 38 with (first | ((with_reducible refine gate_dst (N := 7) rfl ?_); (try (refine gate_guard (by rfl) ?_; dsimp only)); refine box_event ?hg (N := 7) ?hd (cs := #[.int .i64 0, .int .i64 0, .int .i64 0, .int .i64 0]) (t := 65) ?hr ?_; (case hd => rfl); (case hg => rfl); (case hr => first | (go_simp; done) | (go_simp; rfl)); intro gb154 hg w12 hbox hb; have n0_ := Aside0.mk (Kd.R_below (by (with_reducible repeat (first | apply Kd.R_alloc | apply Kd.R_drewN | apply Kd.R_drew)); exact HO_4.out) hb); have n1_ := Aside0.mk (blk_below (g := gb152) (o := .cells #[.string a0_0, .int .i64 a0_1, .int .i64 a0_2, .slice A0_3 l0_3.length c0_3, .slice (some ad153) l0_4.length c0_4] 39 (0, 0)) (by (with_reducible repeat (first | refine blk_drewN ?_ _ | refine blk_drew ?_ | refine blk_alloc ?_ _)); exact BK152.out) hb); have n2_ := Aside0.mk (below_step (by repeat (first | (with_reducible first | exact HB.out | apply below_alloc | apply pw_below_drewN | apply below_drew1 | refine below_set ?_ GE152.out) | exact HB.out)) hb); have n3_ := Aside0.mk (hbox); have n4_ := Aside0.mk ((by rw [hg]; exact (below_size (by repeat (first | (with_reducible first | exact HB.out | apply below_alloc | apply pw_below_drewN | apply below_drew1 | refine below_set ?_ GE152.out) | exact HB.out))) : w.heap.size ≤ gb154)); have n5_ := Aside0.mk ((by rw [hg]; exact (below_size (by repeat (first | (with_reducible first | exact HB.out | apply below_alloc | apply pw_below_drewN | apply below_drew1 | refine below_set ?_ GE152.out) | exact HB.out))) : w.heap.size ≤ gb154)); have n6_ := Aside0.mk ((by rw [hg]; exact Nat.ne_of_lt (blk_lt (g := gb152) (o := .cells #[.string a0_0, .int .i64 a0_1, .int .i64 a0_2, .slice A0_3 l0_3.length c0_3, .slice (some ad153) l0_4.length c0_4] 39 (0, 0)) (by (with_reducible repeat (first | refine blk_drewN ?_ _ | refine blk_drew ?_ | refine blk_alloc ?_ _)); exact BK152.out)) : gb152 ≠ gb154)); have n7_ := Aside0.mk ((by rw [hg]; exact Nat.ne_of_gt (blk_lt (g := gb152) (o := .cells #[.string a0_0, .int .i64 a0_1, .int .i64 a0_2, .slice A0_3 l0_3.length c0_3, .slice (some ad153) l0_4.length c0_4] 39 (0, 0)) (by (with_reducible repeat (first | refine blk_drewN ?_ _ | refine blk_drew ?_ | refine blk_alloc ?_ _)); exact BK152.out)) : gb154 ≠ gb152)); clear HO_4; clear BK152; clear HB; have HO_4 := n0_; have BK152 := n1_; have HB := n2_; have BK154 := n3_; have GW154 := n4_; have GE154 := n5_; have NB152_154 := n6_; have NB154_152 := n7_; clear n0_ n1_ n2_ n3_ n4_ n5_ n6_ n7_; clear hb hbox hg; have hnb13 := NB154_152.out; have hnc13 := NB152_154.out; have hcz14_0 : w12.cell? ⟨gb154, 0, none⟩ = some (.int .i64 0) := (blk_cell BK154.out 0).trans rfl; have hcz14_1 : w12.cell? ⟨gb154, 1, none⟩ = some (.int .i64 0) := (blk_cell BK154.out 1).trans rfl; have hcz14_2 : w12.cell? ⟨gb154, 2, none⟩ = some (.int .i64 0) := (blk_cell BK154.out 2).trans rfl; have hcz14_3 : w12.cell? ⟨gb154, 3, none⟩ = some (.int .i64 0) := (blk_cell BK154.out 3).trans rfl; have hfz14_0 := blk_frozen BK154.out 0; have hfz14_1 := blk_frozen BK154.out 1; have hfz14_2 := blk_frozen BK154.out 2; have hfz14_3 := blk_frozen BK154.out 3; obtain ⟨Ao15, co15, eo15⟩ := Kd.R_slice HO_4.out; subst eo15)))
                (try simp only [Act.put, List.setIfInBounds_toArray, List.set_cons_zero, List.set_cons_succ])
                go_cut [38] (fun v38 wc => ∃ (kq : Nat) (x38_9 : Bool), v38 = .bool x38_9 ∧ Aside0 (trestletop_run.j2 kq x4_1 (wrap64 (x5_1 + 1)) x6_1 (x4_1.length : Int) ((rd_T65 l0_4 x5_1).f0) x38_9 a0_0 a0_1 a0_2 l0_3 l0_4 ((rd_T65 l0_4 x5_1).f0) ((rd_T65 l0_4 x5_1).f1) ((rd_T65 l0_4 x5_1).f2) ((rd_T65 l0_4 x5_1).f3) = some (r1, r2)) ∧ Aside0 (kq ≤ kj2) ∧ Aside0 (Kd.R (Kd.int .i64) 3 wc w.heap.size (fun _ => True) (.slice Ao15 x4_1.length co15) x4_1) ∧ Aside0 (wc.heap[gb152]? = some (.cells #[.string a0_0, .int .i64 a0_1, .int .i64 a0_2, (.slice A0_3 l0_3.length c0_3), (.slice (some ad153) l0_4.length c0_4)] 39 (0, 0))) ∧ Aside0 (wc.heap[gb154]? = some (.cells #[.int .i64 ((rd_T65 l0_4 x5_1).f0), .int .i64 ((rd_T65 l0_4 x5_1).f1), .int .i64 ((rd_T65 l0_4 x5_1).f2), .int .i64 ((rd_T65 l0_4 x5_1).f3)] 65 (0, 0))) ∧ Aside0 (Below w.heap.size w wc))
                case first =>
                  have H := HC10.out
                  clear HC10
                  by_cases c16 : ((rd_T65 l0_4 x5_1).f0) = 1
                  · rw [if_pos c16] at H
                    have c16b0 : (((rd_T65 l0_4 x5_1).f0) == 1) = true := beq_iff_eq.mpr c16
                    have c16b1 : (((rd_T65 l0_4 x5_1).f0) != 1) = false := bne_eq_false_iff_eq.mpr c16
                    clear c16
                    (first | rw [c16b0] | (simp only [i64_w, i32_w]; rw [c16b0]) | skip)
                    have H' := Aside0.mk H
                    clear H
                    go_wp2
                    repeat (go_quiet (fail); try go_wp2)
                    go_meet
                    case rel => exact ⟨_, ((((rd_T65 l0_4 x5_1).f0) == 1)), (by first | rfl | (simp; done) | (simp [*]; done)), H', ⟨by have := HK1.out; have := HJ2.out; first | omega | exact Nat.le_refl _⟩, ⟨by (with_reducible repeat (first | apply Kd.R_alloc | apply Kd.R_drewN | apply Kd.R_drew)); exact Kd.R_mono (Kd.R_far (p := ⟨gb154, 3, none⟩) (Kd.R_far (p := ⟨gb154, 2, none⟩) (Kd.R_far (p := ⟨gb154, 1, none⟩) (Kd.R_far (p := ⟨gb154, 0, none⟩) (Kd.R_types HO_4.out BK154.out (by decide)) (fun _ hk => hk.2) (.int .i64 ((rd_T65 l0_4 x5_1).f0))) (fun _ hk => hk.2) (.int .i64 ((rd_T65 l0_4 x5_1).f1))) (fun _ hk => hk.2) (.int .i64 ((rd_T65 l0_4 x5_1).f2))) (fun _ hk => hk.2) (.int .i64 ((rd_T65 l0_4 x5_1).f3))) (fun _ hk => trivial)⟩, ⟨by (with_reducible repeat (first | refine blk_drewN ?_ _ | refine blk_drew ?_ | refine blk_alloc ?_ _)); refine blk_far ?_ NB152_154.out _; (with_reducible repeat (first | refine blk_drewN ?_ _ | refine blk_drew ?_ | refine blk_alloc ?_ _)); refine blk_far ?_ NB152_154.out _; (with_reducible repeat (first | refine blk_drewN ?_ _ | refine blk_drew ?_ | refine blk_alloc ?_ _)); refine blk_far ?_ NB152_154.out _; (with_reducible repeat (first | refine blk_drewN ?_ _ | refine blk_drew ?_ | refine blk_alloc ?_ _)); refine blk_far ?_ NB152_154.out _; (with_reducible repeat (first | refine blk_drewN ?_ _ | refine blk_drew ?_ | refine blk_alloc ?_ _)); exact BK152.out⟩, ⟨by (with_reducible repeat (first | refine blk_drewN ?_ _ | refine blk_drew ?_ | refine blk_alloc ?_ _)); refine blk_put (cs := #[.int .i64 ((rd_T65 l0_4 x5_1).f0), .int .i64 ((rd_T65 l0_4 x5_1).f1), .int .i64 ((rd_T65 l0_4 x5_1).f2), .int .i64 0]) ?_ 3 _ rfl; (with_reducible repeat (first | refine blk_drewN ?_ _ | refine blk_drew ?_ | refine blk_alloc ?_ _)); refine blk_put (cs := #[.int .i64 ((rd_T65 l0_4 x5_1).f0), .int .i64 ((rd_T65 l0_4 x5_1).f1), .int .i64 0, .int .i64 0]) ?_ 2 _ rfl; (with_reducible repeat (first | refine blk_drewN ?_ _ | refine blk_drew ?_ | refine blk_alloc ?_ _)); refine blk_put (cs := #[.int .i64 ((rd_T65 l0_4 x5_1).f0), .int .i64 0, .int .i64 0, .int .i64 0]) ?_ 1 _ rfl; (with_reducible repeat (first | refine blk_drewN ?_ _ | refine blk_drew ?_ | refine blk_alloc ?_ _)); refine blk_put (cs := #[.int .i64 0, .int .i64 0, .int .i64 0, .int .i64 0]) ?_ 0 _ rfl; (with_reducible repeat (first | refine blk_drewN ?_ _ | refine blk_drew ?_ | refine blk_alloc ?_ _)); exact BK154.out⟩, ⟨by repeat (first | (with_reducible first | exact HB.out | apply below_alloc | apply pw_below_drewN | apply below_drew1 | refine below_set ?_ GE152.out | refine below_set ?_ GE154.out) | exact HB.out)⟩⟩
                  · rw [if_neg c16] at H
                    have c16b0 : (((rd_T65 l0_4 x5_1).f0) == 1) = false := beq_eq_false_iff_ne.mpr c16
                    have c16b1 : (((rd_T65 l0_4 x5_1).f0) != 1) = true := bne_iff_ne.mpr c16
                    (first | rw [c16b0] | (simp only [i64_w, i32_w]; rw [c16b0]) | skip)
                    have H' := Aside0.mk H
                    clear H
                    go_wp2
                    repeat (go_quiet (fail); try go_wp2)
                    go_meet
                    case rel => exact ⟨_, ((((rd_T65 l0_4 x5_1).f0) == 22)), (by first | rfl | (simp; done) | (simp [*]; done)), H', ⟨by have := HK1.out; have := HJ2.out; first | omega | exact Nat.le_refl _⟩, ⟨by (with_reducible repeat (first | apply Kd.R_alloc | apply Kd.R_drewN | apply Kd.R_drew)); exact Kd.R_mono (Kd.R_far (p := ⟨gb154, 3, none⟩) (Kd.R_far (p := ⟨gb154, 2, none⟩) (Kd.R_far (p := ⟨gb154, 1, none⟩) (Kd.R_far (p := ⟨gb154, 0, none⟩) (Kd.R_types HO_4.out BK154.out (by decide)) (fun _ hk => hk.2) (.int .i64 ((rd_T65 l0_4 x5_1).f0))) (fun _ hk => hk.2) (.int .i64 ((rd_T65 l0_4 x5_1).f1))) (fun _ hk => hk.2) (.int .i64 ((rd_T65 l0_4 x5_1).f2))) (fun _ hk => hk.2) (.int .i64 ((rd_T65 l0_4 x5_1).f3))) (fun _ hk => trivial)⟩, ⟨by (with_reducible repeat (first | refine blk_drewN ?_ _ | refine blk_drew ?_ | refine blk_alloc ?_ _)); refine blk_far ?_ NB152_154.out _; (with_reducible repeat (first | refine blk_drewN ?_ _ | refine blk_drew ?_ | refine blk_alloc ?_ _)); refine blk_far ?_ NB152_154.out _; (with_reducible repeat (first | refine blk_drewN ?_ _ | refine blk_drew ?_ | refine blk_alloc ?_ _)); refine blk_far ?_ NB152_154.out _; (with_reducible repeat (first | refine blk_drewN ?_ _ | refine blk_drew ?_ | refine blk_alloc ?_ _)); refine blk_far ?_ NB152_154.out _; (with_reducible repeat (first | refine blk_drewN ?_ _ | refine blk_drew ?_ | refine blk_alloc ?_ _)); exact BK152.out⟩, ⟨by (with_reducible repeat (first | refine blk_drewN ?_ _ | refine blk_drew ?_ | refine blk_alloc ?_ _)); refine blk_put (cs := #[.int .i64 ((rd_T65 l0_4 x5_1).f0), .int .i64 ((rd_T65 l0_4 x5_1).f1), .int .i64 ((rd_T65 l0_4 x5_1).f2), .int .i64 0]) ?_ 3 _ rfl; (with_reducible repeat (first | refine blk_drewN ?_ _ | refine blk_drew ?_ | refine blk_alloc ?_ _)); refine blk_put (cs := #[.int .i64 ((rd_T65 l0_4 x5_1).f0), .int .i64 ((rd_T65 l0_4 x5_1).f1), .int .i64 0, .int .i64 0]) ?_ 2 _ rfl; (with_reducible repeat (first | refine blk_drewN ?_ _ | refine blk_drew ?_ | refine blk_alloc ?_ _)); refine blk_put (cs := #[.int .i64 ((rd_T65 l0_4 x5_1).f0), .int .i64 0, .int .i64 0, .int .i64 0]) ?_ 1 _ rfl; (with_reducible repeat (first | refine blk_drewN ?_ _ | refine blk_drew ?_ | refine blk_alloc ?_ _)); refine blk_put (cs := #[.int .i64 0, .int .i64 0, .int .i64 0, .int .i64 0]) ?_ 0 _ rfl; (with_reducible repeat (first | refine blk_drewN ?_ _ | refine blk_drew ?_ | refine blk_alloc ?_ _)); exact BK154.out⟩, ⟨by repeat (first | (with_reducible first | exact HB.out | apply below_alloc | apply pw_below_drewN | apply below_drew1 | refine below_set ?_ GE152.out | refine below_set ?_ GE154.out) | exact HB.out)⟩⟩
                case rest =>
                  clear HC10
                  try clear c1
                  try clear p1
                  try clear q1
                  try clear hx1
                  try clear p2
                  try clear c4
                  try clear c4b0
                  try clear c5
                  try clear c5b0
                  try clear c6
                  try clear p6
                  try clear c7
                  try clear c8
                  try clear c8b0
                  try clear c9
                  try clear c9b0
                  try clear c13
                  try clear p15
                  try clear q15
                  try clear hx15
                  try clear c16
                  try clear c16b0
                  try clear c16b1
                  try clear hcz11_0
                  try clear hcz11_1
                  try clear hcz11_2
                  try clear hcz11_3
                  try clear hcz11_4
                  try clear hcz14_0
                  try clear hcz14_1
                  try clear hcz14_2
                  try clear hcz14_3
                  try clear hcz6_0
                  try clear hcz6_1
                  try clear hcz6_2
                  try clear hcz6_3
                  try clear hcz6_4
                  try clear hfz11_0
                  try clear hfz11_1
                  try clear hfz11_2
                  try clear hfz11_3
                  try clear hfz11_4
                  try clear hfz14_0
                  try clear hfz14_1
                  try clear hfz14_2
                  try clear hfz14_3
                  try clear hfz6_0
                  try clear hfz6_1
                  try clear hfz6_2
                  try clear hfz6_3
                  try clear hfz6_4
                  try clear hx153_0
                  try clear hx153_1
                  try clear hx153_2
                  try clear hx153_3
                  try clear p153
                  try clear p2
                  try clear q153
                  obtain ⟨kq, x38_9, rfl, HA, HJ9, HO_4, BK152, BK154, HB⟩ := hcut
                  cases kq with
                  | zero => exact absurd HA.out (by simp [trestletop_run.j2])
                  | succ kj9 =>
                    have H := HA.out
                    clear HA
                    simp only [trestletop_run.j2] at H
                    by_cases c17 : x38_9 = true
                    · subst c17
                      have H1 : (trestletop_run.l0 kj9 x4_1 (wrap64 (x5_1 + 1)) (wrap64 (x6_1 + 1)) a0_0 a0_1 a0_2 l0_3 l0_4) = some (r1, r2) := by rw [if_pos rfl] at H; exact H
                      clear H
                      have H := H1
                      clear H1
                      have H' := Aside0.mk H
                      clear H
                      go_wp2
                      repeat (go_quiet (fail); try go_wp2)
                      go_roundg kj9
                      case measure => have := HK1.out; have := HJ2.out; have := HJ9.out; omega
                      case rel => exact ⟨(x4_1), ((wrap64 (x5_1 + 1))), (wrap64 (x6_1 + 1)), (by first | rfl | (simp; done) | (simp [*]; done)), (by first | rfl | (simp; done) | (simp [*]; done)), H', ⟨by have := HK1.out; have := HJ2.out; have := HJ9.out; omega⟩, ⟨by (with_reducible repeat (first | apply Kd.R_alloc | apply Kd.R_drewN | apply Kd.R_drew)); exact HO_4.out⟩, ⟨by (with_reducible repeat (first | refine blk_drewN ?_ _ | refine blk_drew ?_ | refine blk_alloc ?_ _)); exact BK152.out⟩, ⟨by repeat (first | (with_reducible first | exact HB.out | apply below_alloc | apply pw_below_drewN | apply below_drew1 | refine below_set ?_ GE152.out | refine below_set ?_ GE154.out) | exact HB.out)⟩⟩
                    · replace c17 := Bool.eq_false_iff.mpr c17
                      subst c17
                      have H1 : (if ((rd_T65 l0_4 x5_1).f0) = 2 then (if ((rd_T65 l0_4 x5_1).f1) < 1 then (some (0, false)) else (if ((rd_T65 l0_4 x5_1).f1) > (l0_3.length : Int) then (some (0, false)) else (if 0 ≤ (wrap64 (((rd_T65 l0_4 x5_1).f1) - 1)) then (if (wrap64 (((rd_T65 l0_4 x5_1).f1) - 1)) < (l0_3.length : Int) then (if ((rd_T67 l0_3 (wrap64 (((rd_T65 l0_4 x5_1).f1) - 1))).f0) = 2 then (if x4_1.length < 17592186044416 then (trestletop_run.l0 kj9 (x4_1 ++ [(rd_T67 l0_3 (wrap64 (((rd_T65 l0_4 x5_1).f1) - 1))).f1]) (wrap64 (x5_1 + 1)) (wrap64 (x6_1 + 1)) a0_0 a0_1 a0_2 l0_3 l0_4) else (none)) else (some (0, false))) else (none)) else (none)))) else (if ((rd_T65 l0_4 x5_1).f0) = 16 then (if (x4_1.length : Int) < 1 then (some (0, false)) else (if ((rd_T65 l0_4 x5_1).f1) = 3 then (if 0 ≤ (wrap64 ((x4_1.length : Int) - 1)) then (if (wrap64 ((x4_1.length : Int) - 1)) < (x4_1.length : Int) then (trestletop_run.l0 kj9 (x4_1.set ((wrap64 ((x4_1.length : Int) - 1)) : Int).toNat (wrap64 (-(rd x4_1 (wrap64 ((x4_1.length : Int) - 1)))))) (wrap64 (x5_1 + 1)) (wrap64 (x6_1 + 1)) a0_0 a0_1 a0_2 l0_3 l0_4) else (none)) else (none)) else (some (0, false)))) else (if ((rd_T65 l0_4 x5_1).f0) = 17 then (if (x4_1.length : Int) < 2 then (trestletop_run.j3 kj9 x4_1 (wrap64 (x5_1 + 1)) x6_1 (x4_1.length : Int) true a0_0 a0_1 a0_2 l0_3 l0_4 ((rd_T65 l0_4 x5_1).f0) ((rd_T65 l0_4 x5_1).f1) ((rd_T65 l0_4 x5_1).f2) ((rd_T65 l0_4 x5_1).f3)) else (if ((rd_T65 l0_4 x5_1).f1) < 1 then (trestletop_run.j3 kj9 x4_1 (wrap64 (x5_1 + 1)) x6_1 (x4_1.length : Int) true a0_0 a0_1 a0_2 l0_3 l0_4 ((rd_T65 l0_4 x5_1).f0) ((rd_T65 l0_4 x5_1).f1) ((rd_T65 l0_4 x5_1).f2) ((rd_T65 l0_4 x5_1).f3)) else (trestletop_run.j3 kj9 x4_1 (wrap64 (x5_1 + 1)) x6_1 (x4_1.length : Int) (decide (((rd_T65 l0_4 x5_1).f1) > 3)) a0_0 a0_1 a0_2 l0_3 l0_4 ((rd_T65 l0_4 x5_1).f0) ((rd_T65 l0_4 x5_1).f1) ((rd_T65 l0_4 x5_1).f2) ((rd_T65 l0_4 x5_1).f3)))) else (if ((rd_T65 l0_4 x5_1).f0) = 20 then (if (x4_1.length : Int) < 1 then (some (0, false)) else (if 0 ≤ (wrap64 ((x4_1.length : Int) - 1)) then (if (wrap64 ((x4_1.length : Int) - 1)) ≤ (x4_1.length : Int) then (trestletop_run.l0 kj9 (x4_1.take ((wrap64 ((x4_1.length : Int) - 1)) : Int).toNat) (wrap64 (x5_1 + 1)) (wrap64 (x6_1 + 1)) a0_0 a0_1 a0_2 l0_3 l0_4) else (none)) else (none))) else (if ((rd_T65 l0_4 x5_1).f0) = 21 then (trestletop_run.l0 kj9 x4_1 ((rd_T65 l0_4 x5_1).f1) (wrap64 (x6_1 + 1)) a0_0 a0_1 a0_2 l0_3 l0_4) else (if ((rd_T65 l0_4 x5_1).f0) = 25 then (if (x4_1.length : Int) = 1 then (if 0 < (x4_1.length : Int) then (some (rd x4_1 0, true)) else (none)) else (some (0, false))) else (some (0, false)))))))) = some (r1, r2) := by rw [if_neg (show ¬ (false = true) by decide)] at H; exact H
                      clear H
                      have H := H1
                      clear H1
                      by_cases c18 : ((rd_T65 l0_4 x5_1).f0) = 2
                      · rw [if_pos c18] at H
                        have c18b0 : (((rd_T65 l0_4 x5_1).f0) == 2) = true := beq_iff_eq.mpr c18
                        have c18b1 : (((rd_T65 l0_4 x5_1).f0) != 2) = false := bne_eq_false_iff_eq.mpr c18
                        clear c18
                        by_cases c19 : ((rd_T65 l0_4 x5_1).f1) < 1
                        · rw [if_pos c19] at H
                          have c19b0 : decide (((rd_T65 l0_4 x5_1).f1) < 1) = true := decide_eq_true c19
                          clear c19
                          simp only [Option.some.injEq, Prod.mk.injEq] at H
                          obtain ⟨rfl, rfl⟩ := H
                          have hnb20 := NB154_152.out
                          have hnc20 := NB152_154.out
                          have hcz21_0 : wc.cell? ⟨gb154, 0, none⟩ = some (.int .i64 ((rd_T65 l0_4 x5_1).f0)) := (blk_cell BK154.out 0).trans rfl
                          have hcz21_1 : wc.cell? ⟨gb154, 1, none⟩ = some (.int .i64 ((rd_T65 l0_4 x5_1).f1)) := (blk_cell BK154.out 1).trans rfl
                          have hcz21_2 : wc.cell? ⟨gb154, 2, none⟩ = some (.int .i64 ((rd_T65 l0_4 x5_1).f2)) := (blk_cell BK154.out 2).trans rfl
                          have hcz21_3 : wc.cell? ⟨gb154, 3, none⟩ = some (.int .i64 ((rd_T65 l0_4 x5_1).f3)) := (blk_cell BK154.out 3).trans rfl
                          have hfz21_0 := blk_frozen BK154.out 0
                          have hfz21_1 := blk_frozen BK154.out 1
                          have hfz21_2 := blk_frozen BK154.out 2
                          have hfz21_3 := blk_frozen BK154.out 3
                          go_wp2
                          repeat (go_quiet (fail); try go_wp2)
                          go_ret2
                          exact ⟨by first | rfl | (simp [errW_none, errW_some] <;> rfl) | (simp [*, errW_none, errW_some] <;> rfl), by repeat (first | (with_reducible first | exact HB.out | apply below_alloc | apply pw_below_drewN | apply below_drew1 | refine below_set ?_ GE152.out | refine below_set ?_ GE154.out) | exact HB.out)⟩
                        · rw [if_neg c19] at H
                          have c19b0 : decide (((rd_T65 l0_4 x5_1).f1) < 1) = false := decide_eq_false c19
                          clear c19
                          by_cases c22 : ((rd_T65 l0_4 x5_1).f1) > (l0_3.length : Int)
                          · rw [if_pos c22] at H
                            have c22b0 : decide ((l0_3.length : Int) < ((rd_T65 l0_4 x5_1).f1)) = true := decide_eq_true c22
                            clear c22
                            simp only [Option.some.injEq, Prod.mk.injEq] at H
                            obtain ⟨rfl, rfl⟩ := H
                            have hnb23 := NB154_152.out
                            have hnc23 := NB152_154.out
                            have hcz24_0 : wc.cell? ⟨gb154, 0, none⟩ = some (.int .i64 ((rd_T65 l0_4 x5_1).f0)) := (blk_cell BK154.out 0).trans rfl
                            have hcz24_1 : wc.cell? ⟨gb154, 1, none⟩ = some (.int .i64 ((rd_T65 l0_4 x5_1).f1)) := (blk_cell BK154.out 1).trans rfl
                            have hcz24_2 : wc.cell? ⟨gb154, 2, none⟩ = some (.int .i64 ((rd_T65 l0_4 x5_1).f2)) := (blk_cell BK154.out 2).trans rfl
                            have hcz24_3 : wc.cell? ⟨gb154, 3, none⟩ = some (.int .i64 ((rd_T65 l0_4 x5_1).f3)) := (blk_cell BK154.out 3).trans rfl
                            have hfz24_0 := blk_frozen BK154.out 0
                            have hfz24_1 := blk_frozen BK154.out 1
                            have hfz24_2 := blk_frozen BK154.out 2
                            have hfz24_3 := blk_frozen BK154.out 3
                            have hcz25_0 : wc.cell? ⟨gb152, 0, none⟩ = some (.string a0_0) := (blk_cell BK152.out 0).trans rfl
                            have hcz25_1 : wc.cell? ⟨gb152, 1, none⟩ = some (.int .i64 a0_1) := (blk_cell BK152.out 1).trans rfl
                            have hcz25_2 : wc.cell? ⟨gb152, 2, none⟩ = some (.int .i64 a0_2) := (blk_cell BK152.out 2).trans rfl
                            have hcz25_3 : wc.cell? ⟨gb152, 3, none⟩ = some (.slice A0_3 l0_3.length c0_3) := (blk_cell BK152.out 3).trans rfl
                            have hcz25_4 : wc.cell? ⟨gb152, 4, none⟩ = some (.slice (some ad153) l0_4.length c0_4) := (blk_cell BK152.out 4).trans rfl
                            have hfz25_0 := blk_frozen BK152.out 0
                            have hfz25_1 := blk_frozen BK152.out 1
                            have hfz25_2 := blk_frozen BK152.out 2
                            have hfz25_3 := blk_frozen BK152.out 3
                            have hfz25_4 := blk_frozen BK152.out 4
                            go_wp2
                            repeat (go_quiet (fail); try go_wp2)
                            go_ret2
                            exact ⟨by first | rfl | (simp [errW_none, errW_some] <;> rfl) | (simp [*, errW_none, errW_some] <;> rfl), by repeat (first | (with_reducible first | exact HB.out | apply below_alloc | apply pw_below_drewN | apply below_drew1 | refine below_set ?_ GE152.out | refine below_set ?_ GE154.out) | exact HB.out)⟩
                          · rw [if_neg c22] at H
                            have c22b0 : decide ((l0_3.length : Int) < ((rd_T65 l0_4 x5_1).f1)) = false := decide_eq_false c22
                            clear c22
                            obtain ⟨ji26, hji26⟩ : ∃ j_ : Int, (wrap64 (((rd_T65 l0_4 x5_1).f1) - 1)) = j_ := ⟨_, rfl⟩
                            replace H : (if 0 ≤ (ji26) then (if (ji26) < (l0_3.length : Int) then (if ((rd_T67 l0_3 (ji26)).f0) = 2 then (if x4_1.length < 17592186044416 then (trestletop_run.l0 kj9 (x4_1 ++ [(rd_T67 l0_3 (ji26)).f1]) (wrap64 (x5_1 + 1)) (wrap64 (x6_1 + 1)) a0_0 a0_1 a0_2 l0_3 l0_4) else (none)) else (some (0, false))) else (none)) else (none)) = some (r1, r2) := by first | (rw [hji26] at H; exact H) | (simp only [hji26] at H ⊢; exact H)
                            have hji26w : (IntKind.i64.wrap (((rd_T65 l0_4 x5_1).f1) - 1)) = ji26 := (i64_w _).trans hji26
                            by_cases c27 : 0 ≤ (ji26)
                            · rw [if_pos c27] at H
                              have c27b0 : decide (0 ≤ (ji26)) = true := decide_eq_true c27
                              clear c27
                              by_cases c28 : (ji26) < (l0_3.length : Int)
                              · rw [if_pos c28] at H
                                have c28b0 : decide ((ji26) < (l0_3.length : Int)) = true := decide_eq_true c28
                                clear c28
                                by_cases c29 : ((rd_T67 l0_3 (ji26)).f0) = 2
                                · rw [if_pos c29] at H
                                  have c29b0 : (((rd_T67 l0_3 (ji26)).f0) == 2) = true := beq_iff_eq.mpr c29
                                  have c29b1 : (((rd_T67 l0_3 (ji26)).f0) != 2) = false := bne_eq_false_iff_eq.mpr c29
                                  clear c29
                                  by_cases c30 : x4_1.length < 17592186044416
                                  · rw [if_pos c30] at H
                                    have LMc30 := Aside0.mk c30
                                    clear c30
                                    obtain ⟨y157, hy157⟩ : ∃ y_ : List Int, y_ = (x4_1 ++ [(rd_T67 l0_3 (ji26)).f1]) := ⟨_, rfl⟩
                                    replace H : (trestletop_run.l0 kj9 y157 (wrap64 (x5_1 + 1)) (wrap64 (x6_1 + 1)) a0_0 a0_1 a0_2 l0_3 l0_4) = some (r1, r2) := by first | (rw [hy157]; with_reducible exact H) | (have H2_ := (Option.bind_some _ _).symm.trans H; rw [hy157]; with_reducible exact H2_) | (have H2_ := (Option.bind_some _ _).symm.trans H; with_reducible exact H2_) | with_reducible exact H | (rw [hy157]; exact H) | exact H
                                    have Ny157 := Aside0.mk hy157
                                    clear hy157
                                    have H' := Aside0.mk H
                                    clear H
                                    have hnb31 := NB154_152.out
                                    have hnc31 := NB152_154.out
                                    have hcz32_0 : wc.cell? ⟨gb154, 0, none⟩ = some (.int .i64 ((rd_T65 l0_4 x5_1).f0)) := (blk_cell BK154.out 0).trans rfl
                                    have hcz32_1 : wc.cell? ⟨gb154, 1, none⟩ = some (.int .i64 ((rd_T65 l0_4 x5_1).f1)) := (blk_cell BK154.out 1).trans rfl
                                    have hcz32_2 : wc.cell? ⟨gb154, 2, none⟩ = some (.int .i64 ((rd_T65 l0_4 x5_1).f2)) := (blk_cell BK154.out 2).trans rfl
                                    have hcz32_3 : wc.cell? ⟨gb154, 3, none⟩ = some (.int .i64 ((rd_T65 l0_4 x5_1).f3)) := (blk_cell BK154.out 3).trans rfl
                                    have hfz32_0 := blk_frozen BK154.out 0
                                    have hfz32_1 := blk_frozen BK154.out 1
                                    have hfz32_2 := blk_frozen BK154.out 2
                                    have hfz32_3 := blk_frozen BK154.out 3
                                    have hcz33_0 : wc.cell? ⟨gb152, 0, none⟩ = some (.string a0_0) := (blk_cell BK152.out 0).trans rfl
                                    have hcz33_1 : wc.cell? ⟨gb152, 1, none⟩ = some (.int .i64 a0_1) := (blk_cell BK152.out 1).trans rfl
                                    have hcz33_2 : wc.cell? ⟨gb152, 2, none⟩ = some (.int .i64 a0_2) := (blk_cell BK152.out 2).trans rfl
                                    have hcz33_3 : wc.cell? ⟨gb152, 3, none⟩ = some (.slice A0_3 l0_3.length c0_3) := (blk_cell BK152.out 3).trans rfl
                                    have hcz33_4 : wc.cell? ⟨gb152, 4, none⟩ = some (.slice (some ad153) l0_4.length c0_4) := (blk_cell BK152.out 4).trans rfl
                                    have hfz33_0 := blk_frozen BK152.out 0
                                    have hfz33_1 := blk_frozen BK152.out 1
                                    have hfz33_2 := blk_frozen BK152.out 2
                                    have hfz33_3 := blk_frozen BK152.out 3
                                    have hfz33_4 := blk_frozen BK152.out 4
                                    have p155 : 0 ≤ ((ji26) : Int) := of_decide_eq_true (by first | (with_reducible assumption) | assumption)
                                    have q155 : (ji26) < (l0_3.length : Int) := of_decide_eq_true (by first | (with_reducible assumption) | assumption)
                                    obtain ⟨ad155, e155, hx155_0, hx155_1, hx155_2⟩ := at_T67 HR0_3.out (ji26) p155 q155
                                    cases e155
                                    replace hx155_0 := (HB.out.cell (World.block_lt_of_cell? w _ hx155_0)).trans hx155_0
                                    replace hx155_1 := (HB.out.cell (World.block_lt_of_cell? w _ hx155_1)).trans hx155_1
                                    replace hx155_2 := (HB.out.cell (World.block_lt_of_cell? w _ hx155_2)).trans hx155_2
                                    replace p155 := eq_true p155
                                    replace q155 := eq_true q155
                                    have p156 : 0 ≤ ((ji26) : Int) := of_decide_eq_true (by first | (with_reducible assumption) | assumption)
                                    have q156 : (ji26) < (l0_3.length : Int) := of_decide_eq_true (by first | (with_reducible assumption) | assumption)
                                    obtain ⟨ad156, e156, hx156_0, hx156_1, hx156_2⟩ := at_T67 HR0_3.out (ji26) p156 q156
                                    obtain rfl : ad155 = ad156 := (by injection e156)
                                    replace hx156_0 := (HB.out.cell (World.block_lt_of_cell? w _ hx156_0)).trans hx156_0
                                    replace hx156_1 := (HB.out.cell (World.block_lt_of_cell? w _ hx156_1)).trans hx156_1
                                    replace hx156_2 := (HB.out.cell (World.block_lt_of_cell? w _ hx156_2)).trans hx156_2
                                    replace p156 := eq_true p156
                                    replace q156 := eq_true q156
                                    go_wp2_with (first | ((with_reducible refine gate_builtin (b := .append) (xs := #[.tmp 65, .tmp 74]) rfl ?_); (try (refine gate_guard (by rfl) ?_; dsimp only)); at_builtin; refine Kd.R_append (Kd.int .i64) (w0 := w) w.heap.size rfl (.tmp 65) (.tmp 74) 63 3 (.int .i64 0) 8 rfl Tryz.underlying63 info3 rfl (by decide) (by omega) (.slice Ao15 x4_1.length co15) x4_1 ((rd_T67 l0_3 (ji26)).f1) [.int .i64 ((rd_T67 l0_3 (ji26)).f1)] (fun _ => True) (fun _ => False) rfl rfl ?aP (fun _ hk => hk.elim) ?aF ?aO ?aB ?aS ?aL ?_; (case aP => exact rfl); (case aB => exact (by repeat (first | (with_reducible first | exact HB.out | apply below_alloc | apply pw_below_drewN | apply below_drew1 | refine below_set ?_ GE152.out | refine below_set ?_ GE154.out) | exact HB.out))); (case aF => exact (fun _ _ => trivial)); (case aO => exact (by (with_reducible repeat (first | apply Kd.R_alloc | apply Kd.R_drewN | apply Kd.R_drew)); exact HO_4.out)); (case aS => exact (below_size (by repeat (first | (with_reducible first | exact HB.out | apply below_alloc | apply pw_below_drewN | apply below_drew1 | refine below_set ?_ GE152.out | refine below_set ?_ GE154.out) | exact HB.out)))); (case aL => have := LMc30.out; omega); intro v158 w34 ho hb hg hat; rw [← Ny157.out] at ho; have n0_ := Aside0.mk (blk_grown (g := gb152) (o := .cells #[.string a0_0, .int .i64 a0_1, .int .i64 a0_2, .slice (some ad155) l0_3.length c0_3, .slice (some ad153) l0_4.length c0_4] 39 (0, 0)) (by (with_reducible repeat (first | refine blk_drewN ?_ _ | refine blk_drew ?_ | refine blk_alloc ?_ _)); exact BK152.out) hg (Kd.R_ne HO_4.out BK152.out (by decide))); have n1_ := Aside0.mk (blk_grown (g := gb154) (o := .cells #[.int .i64 ((rd_T65 l0_4 x5_1).f0), .int .i64 ((rd_T65 l0_4 x5_1).f1), .int .i64 ((rd_T65 l0_4 x5_1).f2), .int .i64 ((rd_T65 l0_4 x5_1).f3)] 65 (0, 0)) (by (with_reducible repeat (first | refine blk_drewN ?_ _ | refine blk_drew ?_ | refine blk_alloc ?_ _)); exact BK154.out) hg (Kd.R_ne HO_4.out BK154.out (by decide))); have n2_ := Aside0.mk (hb); have n3_ := Aside0.mk (ho); clear BK152; clear BK154; clear HB; clear HO_4; have BK152 := n0_; have BK154 := n1_; have HB := n2_; have HO159 := n3_; clear n0_ n1_ n2_ n3_; clear ho hb hg hat))
                                    repeat (go_quiet (first | ((with_reducible refine gate_builtin (b := .append) (xs := #[.tmp 65, .tmp 74]) rfl ?_); (try (refine gate_guard (by rfl) ?_; dsimp only)); at_builtin; refine Kd.R_append (Kd.int .i64) (w0 := w) w.heap.size rfl (.tmp 65) (.tmp 74) 63 3 (.int .i64 0) 8 rfl Tryz.underlying63 info3 rfl (by decide) (by omega) (.slice Ao15 x4_1.length co15) x4_1 ((rd_T67 l0_3 (ji26)).f1) [.int .i64 ((rd_T67 l0_3 (ji26)).f1)] (fun _ => True) (fun _ => False) rfl rfl ?aP (fun _ hk => hk.elim) ?aF ?aO ?aB ?aS ?aL ?_; (case aP => exact rfl); (case aB => exact (by repeat (first | (with_reducible first | exact HB.out | apply below_alloc | apply pw_below_drewN | apply below_drew1 | refine below_set ?_ GE152.out | refine below_set ?_ GE154.out) | exact HB.out))); (case aF => exact (fun _ _ => trivial)); (case aO => exact (by (with_reducible repeat (first | apply Kd.R_alloc | apply Kd.R_drewN | apply Kd.R_drew)); exact HO_4.out)); (case aS => exact (below_size (by repeat (first | (with_reducible first | exact HB.out | apply below_alloc | apply pw_below_drewN | apply below_drew1 | refine below_set ?_ GE152.out | refine below_set ?_ GE154.out) | exact HB.out)))); (case aL => have := LMc30.out; omega); intro v158 w34 ho hb hg hat; rw [← Ny157.out] at ho; have n0_ := Aside0.mk (blk_grown (g := gb152) (o := .cells #[.string a0_0, .int .i64 a0_1, .int .i64 a0_2, .slice (some ad155) l0_3.length c0_3, .slice (some ad153) l0_4.length c0_4] 39 (0, 0)) (by (with_reducible repeat (first | refine blk_drewN ?_ _ | refine blk_drew ?_ | refine blk_alloc ?_ _)); exact BK152.out) hg (Kd.R_ne HO_4.out BK152.out (by decide))); have n1_ := Aside0.mk (blk_grown (g := gb154) (o := .cells #[.int .i64 ((rd_T65 l0_4 x5_1).f0), .int .i64 ((rd_T65 l0_4 x5_1).f1), .int .i64 ((rd_T65 l0_4 x5_1).f2), .int .i64 ((rd_T65 l0_4 x5_1).f3)] 65 (0, 0)) (by (with_reducible repeat (first | refine blk_drewN ?_ _ | refine blk_drew ?_ | refine blk_alloc ?_ _)); exact BK154.out) hg (Kd.R_ne HO_4.out BK154.out (by decide))); have n2_ := Aside0.mk (hb); have n3_ := Aside0.mk (ho); clear BK152; clear BK154; clear HB; clear HO_4; have BK152 := n0_; have BK154 := n1_; have HB := n2_; have HO159 := n3_; clear n0_ n1_ n2_ n3_; clear ho hb hg hat)); try go_wp2_with (first | ((with_reducible refine gate_builtin (b := .append) (xs := #[.tmp 65, .tmp 74]) rfl ?_); (try (refine gate_guard (by rfl) ?_; dsimp only)); at_builtin; refine Kd.R_append (Kd.int .i64) (w0 := w) w.heap.size rfl (.tmp 65) (.tmp 74) 63 3 (.int .i64 0) 8 rfl Tryz.underlying63 info3 rfl (by decide) (by omega) (.slice Ao15 x4_1.length co15) x4_1 ((rd_T67 l0_3 (ji26)).f1) [.int .i64 ((rd_T67 l0_3 (ji26)).f1)] (fun _ => True) (fun _ => False) rfl rfl ?aP (fun _ hk => hk.elim) ?aF ?aO ?aB ?aS ?aL ?_; (case aP => exact rfl); (case aB => exact (by repeat (first | (with_reducible first | exact HB.out | apply below_alloc | apply pw_below_drewN | apply below_drew1 | refine below_set ?_ GE152.out | refine below_set ?_ GE154.out) | exact HB.out))); (case aF => exact (fun _ _ => trivial)); (case aO => exact (by (with_reducible repeat (first | apply Kd.R_alloc | apply Kd.R_drewN | apply Kd.R_drew)); exact HO_4.out)); (case aS => exact (below_size (by repeat (first | (with_reducible first | exact HB.out | apply below_alloc | apply pw_below_drewN | apply below_drew1 | refine below_set ?_ GE152.out | refine below_set ?_ GE154.out) | exact HB.out)))); (case aL => have := LMc30.out; omega); intro v158 w34 ho hb hg hat; rw [← Ny157.out] at ho; have n0_ := Aside0.mk (blk_grown (g := gb152) (o := .cells #[.string a0_0, .int .i64 a0_1, .int .i64 a0_2, .slice (some ad155) l0_3.length c0_3, .slice (some ad153) l0_4.length c0_4] 39 (0, 0)) (by (with_reducible repeat (first | refine blk_drewN ?_ _ | refine blk_drew ?_ | refine blk_alloc ?_ _)); exact BK152.out) hg (Kd.R_ne HO_4.out BK152.out (by decide))); have n1_ := Aside0.mk (blk_grown (g := gb154) (o := .cells #[.int .i64 ((rd_T65 l0_4 x5_1).f0), .int .i64 ((rd_T65 l0_4 x5_1).f1), .int .i64 ((rd_T65 l0_4 x5_1).f2), .int .i64 ((rd_T65 l0_4 x5_1).f3)] 65 (0, 0)) (by (with_reducible repeat (first | refine blk_drewN ?_ _ | refine blk_drew ?_ | refine blk_alloc ?_ _)); exact BK154.out) hg (Kd.R_ne HO_4.out BK154.out (by decide))); have n2_ := Aside0.mk (hb); have n3_ := Aside0.mk (ho); clear BK152; clear BK154; clear HB; clear HO_4; have BK152 := n0_; have BK154 := n1_; have HB := n2_; have HO159 := n3_; clear n0_ n1_ n2_ n3_; clear ho hb hg hat)))
                                    go_roundg kj9
                                    case measure => have := HK1.out; have := HJ2.out; have := HJ9.out; omega
                                    case rel => exact ⟨(y157), ((wrap64 (x5_1 + 1))), (wrap64 (x6_1 + 1)), (by first | rfl | (simp; done) | (simp [*]; done)), (by first | rfl | (simp; done) | (simp [*]; done)), H', ⟨by have := HK1.out; have := HJ2.out; have := HJ9.out; omega⟩, ⟨by (with_reducible repeat (first | apply Kd.R_alloc | apply Kd.R_drewN | apply Kd.R_drew)); exact HO159.out⟩, ⟨by (with_reducible repeat (first | refine blk_drewN ?_ _ | refine blk_drew ?_ | refine blk_alloc ?_ _)); exact BK152.out⟩, ⟨by repeat (first | (with_reducible first | exact HB.out | apply below_alloc | apply pw_below_drewN | apply below_drew1 | refine below_set ?_ GE152.out | refine below_set ?_ GE154.out) | exact HB.out)⟩⟩
                                  · rw [if_neg c30] at H
                                    exact absurd H (by simp)
                                · rw [if_neg c29] at H
                                  have c29b0 : (((rd_T67 l0_3 (ji26)).f0) == 2) = false := beq_eq_false_iff_ne.mpr c29
                                  have c29b1 : (((rd_T67 l0_3 (ji26)).f0) != 2) = true := bne_iff_ne.mpr c29
                                  simp only [Option.some.injEq, Prod.mk.injEq] at H
                                  obtain ⟨rfl, rfl⟩ := H
                                  have hnb35 := NB154_152.out
                                  have hnc35 := NB152_154.out
                                  have hcz36_0 : wc.cell? ⟨gb154, 0, none⟩ = some (.int .i64 ((rd_T65 l0_4 x5_1).f0)) := (blk_cell BK154.out 0).trans rfl
                                  have hcz36_1 : wc.cell? ⟨gb154, 1, none⟩ = some (.int .i64 ((rd_T65 l0_4 x5_1).f1)) := (blk_cell BK154.out 1).trans rfl
                                  have hcz36_2 : wc.cell? ⟨gb154, 2, none⟩ = some (.int .i64 ((rd_T65 l0_4 x5_1).f2)) := (blk_cell BK154.out 2).trans rfl
                                  have hcz36_3 : wc.cell? ⟨gb154, 3, none⟩ = some (.int .i64 ((rd_T65 l0_4 x5_1).f3)) := (blk_cell BK154.out 3).trans rfl
                                  have hfz36_0 := blk_frozen BK154.out 0
                                  have hfz36_1 := blk_frozen BK154.out 1
                                  have hfz36_2 := blk_frozen BK154.out 2
                                  have hfz36_3 := blk_frozen BK154.out 3
                                  have hcz37_0 : wc.cell? ⟨gb152, 0, none⟩ = some (.string a0_0) := (blk_cell BK152.out 0).trans rfl
                                  have hcz37_1 : wc.cell? ⟨gb152, 1, none⟩ = some (.int .i64 a0_1) := (blk_cell BK152.out 1).trans rfl
                                  have hcz37_2 : wc.cell? ⟨gb152, 2, none⟩ = some (.int .i64 a0_2) := (blk_cell BK152.out 2).trans rfl
                                  have hcz37_3 : wc.cell? ⟨gb152, 3, none⟩ = some (.slice A0_3 l0_3.length c0_3) := (blk_cell BK152.out 3).trans rfl
                                  have hcz37_4 : wc.cell? ⟨gb152, 4, none⟩ = some (.slice (some ad153) l0_4.length c0_4) := (blk_cell BK152.out 4).trans rfl
                                  have hfz37_0 := blk_frozen BK152.out 0
                                  have hfz37_1 := blk_frozen BK152.out 1
                                  have hfz37_2 := blk_frozen BK152.out 2
                                  have hfz37_3 := blk_frozen BK152.out 3
                                  have hfz37_4 := blk_frozen BK152.out 4
                                  have p155 : 0 ≤ ((ji26) : Int) := of_decide_eq_true (by first | (with_reducible assumption) | assumption)
                                  have q155 : (ji26) < (l0_3.length : Int) := of_decide_eq_true (by first | (with_reducible assumption) | assumption)
                                  obtain ⟨ad155, e155, hx155_0, hx155_1, hx155_2⟩ := at_T67 HR0_3.out (ji26) p155 q155
                                  cases e155
                                  replace hx155_0 := (HB.out.cell (World.block_lt_of_cell? w _ hx155_0)).trans hx155_0
                                  replace hx155_1 := (HB.out.cell (World.block_lt_of_cell? w _ hx155_1)).trans hx155_1
                                  replace hx155_2 := (HB.out.cell (World.block_lt_of_cell? w _ hx155_2)).trans hx155_2
                                  replace p155 := eq_true p155
                                  replace q155 := eq_true q155
                                  go_wp2
                                  repeat (go_quiet (fail); try go_wp2)
                                  go_ret2
                                  exact ⟨by first | rfl | (simp [errW_none, errW_some] <;> rfl) | (simp only [← hji26]; first | rfl | (simp [errW_none, errW_some] <;> rfl)) | (simp [*, errW_none, errW_some] <;> rfl), by repeat (first | (with_reducible first | exact HB.out | apply below_alloc | apply pw_below_drewN | apply below_drew1 | refine below_set ?_ GE152.out | refine below_set ?_ GE154.out) | exact HB.out)⟩
                              · rw [if_neg c28] at H
                                exact absurd H (by simp)
                            · rw [if_neg c27] at H
                              exact absurd H (by simp)
                      · rw [if_neg c18] at H
                        have c18b0 : (((rd_T65 l0_4 x5_1).f0) == 2) = false := beq_eq_false_iff_ne.mpr c18
                        have c18b1 : (((rd_T65 l0_4 x5_1).f0) != 2) = true := bne_iff_ne.mpr c18
                        by_cases c38 : ((rd_T65 l0_4 x5_1).f0) = 16
                        · rw [if_pos c38] at H
                          have c38b0 : (((rd_T65 l0_4 x5_1).f0) == 16) = true := beq_iff_eq.mpr c38
                          have c38b1 : (((rd_T65 l0_4 x5_1).f0) != 16) = false := bne_eq_false_iff_eq.mpr c38
                          clear c38
                          by_cases c39 : (x4_1.length : Int) < 1
                          · rw [if_pos c39] at H
                            have c39b0 : decide ((x4_1.length : Int) < 1) = true := decide_eq_true c39
                            have c39b1 : decide (x4_1.length < 1) = true := decide_eq_true (by omega)
                            clear c39
                            simp only [Option.some.injEq, Prod.mk.injEq] at H
                            obtain ⟨rfl, rfl⟩ := H
                            go_wp2
                            repeat (go_quiet (fail); try go_wp2)
                            go_ret2
                            exact ⟨by first | rfl | (simp [errW_none, errW_some] <;> rfl) | (simp [*, errW_none, errW_some] <;> rfl), by repeat (first | (with_reducible first | exact HB.out | apply below_alloc | apply pw_below_drewN | apply below_drew1 | refine below_set ?_ GE152.out | refine below_set ?_ GE154.out) | exact HB.out)⟩
                          · rw [if_neg c39] at H
                            have c39b0 : decide ((x4_1.length : Int) < 1) = false := decide_eq_false c39
                            have c39b1 : decide (x4_1.length < 1) = false := decide_eq_false (by omega)
                            clear c39
                            by_cases c40 : ((rd_T65 l0_4 x5_1).f1) = 3
                            · rw [if_pos c40] at H
                              have c40b0 : (((rd_T65 l0_4 x5_1).f1) == 3) = true := beq_iff_eq.mpr c40
                              have c40b1 : (((rd_T65 l0_4 x5_1).f1) != 3) = false := bne_eq_false_iff_eq.mpr c40
                              clear c40
                              obtain ⟨ji41, hji41⟩ : ∃ j_ : Int, (wrap64 ((x4_1.length : Int) - 1)) = j_ := ⟨_, rfl⟩
                              replace H : (if 0 ≤ (ji41) then (if (ji41) < (x4_1.length : Int) then (trestletop_run.l0 kj9 (x4_1.set ((ji41) : Int).toNat (wrap64 (-(rd x4_1 (ji41))))) (wrap64 (x5_1 + 1)) (wrap64 (x6_1 + 1)) a0_0 a0_1 a0_2 l0_3 l0_4) else (none)) else (none)) = some (r1, r2) := by first | (rw [hji41] at H; exact H) | (simp only [hji41] at H ⊢; exact H)
                              have hji41w : (IntKind.i64.wrap ((x4_1.length : Int) - 1)) = ji41 := (i64_w _).trans hji41
                              by_cases c42 : 0 ≤ (ji41)
                              · rw [if_pos c42] at H
                                have c42b0 : decide (0 ≤ (ji41)) = true := decide_eq_true c42
                                clear c42
                                by_cases c43 : (ji41) < (x4_1.length : Int)
                                · rw [if_pos c43] at H
                                  have c43b0 : decide ((ji41) < (x4_1.length : Int)) = true := decide_eq_true c43
                                  clear c43
                                  obtain ⟨y161, hy161⟩ : ∃ y_ : List Int, y_ = (x4_1.set ((ji41) : Int).toNat (wrap64 (-(rd x4_1 (ji41))))) := ⟨_, rfl⟩
                                  replace H : (trestletop_run.l0 kj9 y161 (wrap64 (x5_1 + 1)) (wrap64 (x6_1 + 1)) a0_0 a0_1 a0_2 l0_3 l0_4) = some (r1, r2) := by first | (rw [hy161]; with_reducible exact H) | (have H2_ := (Option.bind_some _ _).symm.trans H; rw [hy161]; with_reducible exact H2_) | (have H2_ := (Option.bind_some _ _).symm.trans H; with_reducible exact H2_) | with_reducible exact H | (rw [hy161]; exact H) | exact H
                                  have Ny161 := Aside0.mk hy161
                                  clear hy161
                                  have H' := Aside0.mk H
                                  clear H
                                  have hnb45 := NB154_152.out
                                  have hnc45 := NB152_154.out
                                  have hcz46_0 : wc.cell? ⟨gb154, 0, none⟩ = some (.int .i64 ((rd_T65 l0_4 x5_1).f0)) := (blk_cell BK154.out 0).trans rfl
                                  have hcz46_1 : wc.cell? ⟨gb154, 1, none⟩ = some (.int .i64 ((rd_T65 l0_4 x5_1).f1)) := (blk_cell BK154.out 1).trans rfl
                                  have hcz46_2 : wc.cell? ⟨gb154, 2, none⟩ = some (.int .i64 ((rd_T65 l0_4 x5_1).f2)) := (blk_cell BK154.out 2).trans rfl
                                  have hcz46_3 : wc.cell? ⟨gb154, 3, none⟩ = some (.int .i64 ((rd_T65 l0_4 x5_1).f3)) := (blk_cell BK154.out 3).trans rfl
                                  have hfz46_0 := blk_frozen BK154.out 0
                                  have hfz46_1 := blk_frozen BK154.out 1
                                  have hfz46_2 := blk_frozen BK154.out 2
                                  have hfz46_3 := blk_frozen BK154.out 3
                                  have p160 : 0 ≤ ((ji41) : Int) := of_decide_eq_true (by first | (with_reducible assumption) | assumption)
                                  have q160 : (ji41) < (x4_1.length : Int) := of_decide_eq_true (by first | (with_reducible assumption) | assumption)
                                  obtain ⟨ad160, e160, hx160_0⟩ := Kd.at_int (Kd.R_reads' HO_4.out).2.2 (ji41) p160 q160
                                  cases e160
                                  replace p160 := eq_true p160
                                  replace q160 := eq_true q160
                                  have p44 : 0 ≤ ((ji41) : Int) := of_decide_eq_true (by first | (with_reducible assumption) | assumption)
                                  have q44 : ((ji41) : Int) < ((x4_1.length : Int) : Int) := of_decide_eq_true (by first | (with_reducible assumption) | assumption)
                                  obtain ⟨go44, co44, eo44, gb44, gl44, cl44, HG44⟩ := Kd.R_form HO_4.out (by omega)
                                  (first | cases eo44 | (injection eo44 with ea_ en_ ec_; (first | subst ea_ | (injection ea_ with ea_; subst ea_)); subst ec_; clear en_))
                                  have GB44 := Aside0.mk gb44
                                  have GG44 := Aside0.mk HG44
                                  clear gb44 gl44 HG44
                                  (first | simp only [add_plain] at hx160_0 | skip)
                                  obtain ⟨hx44_0, hf44_0⟩ := Kd.R_celln 0 HO_4.out ((ji41) : Int) p44 q44
                                  replace p44 := eq_true p44
                                  replace q44 := eq_true q44
                                  have HP47 := Kd.R_putg HO_4.out ((ji41) : Int) (wrap64 (-(rd x4_1 (ji41))))
                                  go_wp2_with (first | ((with_reducible refine gate_store (t := 3) (p := 94) rfl ?_); (try (rw [drewN_self wc]; generalize hq_ : World.drewN wc _ = wc; have n0_ := Aside0.mk (Kd.R_at hq_ HO_4.out); have n1_ := Aside0.mk (blk_at hq_ BK152.out); have n2_ := Aside0.mk (blk_at hq_ BK154.out); have n3_ := Aside0.mk (below_at hq_ HB.out); clear hq_ HO_4 BK152 BK154 HB; have HO_4 := n0_; have BK152 := n1_; have BK154 := n2_; have HB := n3_; clear n0_ n1_ n2_ n3_; (try (have HP47 := Kd.R_putg HO_4.out ((ji41) : Int) (wrap64 (-(rd x4_1 (ji41)))))))); refine store_event (t := 3) (p := 94) (v := ?vo_w48) (w1 := (wc.setCell ⟨go44, ((ji41) : Int).toNat, none⟩ (.int .i64 (wrap64 (-(rd x4_1 (ji41))))))) ?hg ?ho ?hn ?hr ?_; (case ho => rfl); (case hg => rfl); (case hn => rfl); (case hr => first | (go_simp; done) | (go_simp; rfl)); intro w48 hw; have hg : wc.grownBy w48 (some go44) := (by rw [hw]; exact HP47.2); have hp_ : Kd.R (Kd.int .i64) 3 w48 w.heap.size (fun _ => True) (.slice (some ⟨go44, 0, none⟩) x4_1.length co15) y161 := (by rw [hw, Ny161.out]; exact HP47.1); clear HP47; have n0_ := Aside0.mk (hp_); have n1_ := Aside0.mk (blk_grown (g := gb152) (o := .cells #[.string a0_0, .int .i64 a0_1, .int .i64 a0_2, .slice A0_3 l0_3.length c0_3, .slice (some ad153) l0_4.length c0_4] 39 (0, 0)) (by (with_reducible repeat (first | refine blk_drewN ?_ _ | refine blk_drew ?_ | refine blk_alloc ?_ _)); exact BK152.out) hg (Kd.R_ne HO_4.out BK152.out (by decide))); have n2_ := Aside0.mk (blk_grown (g := gb154) (o := .cells #[.int .i64 ((rd_T65 l0_4 x5_1).f0), .int .i64 ((rd_T65 l0_4 x5_1).f1), .int .i64 ((rd_T65 l0_4 x5_1).f2), .int .i64 ((rd_T65 l0_4 x5_1).f3)] 65 (0, 0)) (by (with_reducible repeat (first | refine blk_drewN ?_ _ | refine blk_drew ?_ | refine blk_alloc ?_ _)); exact BK154.out) hg (Kd.R_ne HO_4.out BK154.out (by decide))); have n3_ := Aside0.mk ((by rw [hw]; exact below_set (HB.out) GB44.out : Below w.heap.size w w48)); clear HO_4; clear BK152; clear BK154; clear HB; have HO_4 := n0_; have BK152 := n1_; have BK154 := n2_; have HB := n3_; clear n0_ n1_ n2_ n3_; clear hg hw hp_))
                                  repeat (go_quiet (first | ((with_reducible refine gate_store (t := 3) (p := 94) rfl ?_); (try (rw [drewN_self wc]; generalize hq_ : World.drewN wc _ = wc; have n0_ := Aside0.mk (Kd.R_at hq_ HO_4.out); have n1_ := Aside0.mk (blk_at hq_ BK152.out); have n2_ := Aside0.mk (blk_at hq_ BK154.out); have n3_ := Aside0.mk (below_at hq_ HB.out); clear hq_ HO_4 BK152 BK154 HB; have HO_4 := n0_; have BK152 := n1_; have BK154 := n2_; have HB := n3_; clear n0_ n1_ n2_ n3_; (try (have HP47 := Kd.R_putg HO_4.out ((ji41) : Int) (wrap64 (-(rd x4_1 (ji41)))))))); refine store_event (t := 3) (p := 94) (v := ?vo_w48) (w1 := (wc.setCell ⟨go44, ((ji41) : Int).toNat, none⟩ (.int .i64 (wrap64 (-(rd x4_1 (ji41))))))) ?hg ?ho ?hn ?hr ?_; (case ho => rfl); (case hg => rfl); (case hn => rfl); (case hr => first | (go_simp; done) | (go_simp; rfl)); intro w48 hw; have hg : wc.grownBy w48 (some go44) := (by rw [hw]; exact HP47.2); have hp_ : Kd.R (Kd.int .i64) 3 w48 w.heap.size (fun _ => True) (.slice (some ⟨go44, 0, none⟩) x4_1.length co15) y161 := (by rw [hw, Ny161.out]; exact HP47.1); clear HP47; have n0_ := Aside0.mk (hp_); have n1_ := Aside0.mk (blk_grown (g := gb152) (o := .cells #[.string a0_0, .int .i64 a0_1, .int .i64 a0_2, .slice A0_3 l0_3.length c0_3, .slice (some ad153) l0_4.length c0_4] 39 (0, 0)) (by (with_reducible repeat (first | refine blk_drewN ?_ _ | refine blk_drew ?_ | refine blk_alloc ?_ _)); exact BK152.out) hg (Kd.R_ne HO_4.out BK152.out (by decide))); have n2_ := Aside0.mk (blk_grown (g := gb154) (o := .cells #[.int .i64 ((rd_T65 l0_4 x5_1).f0), .int .i64 ((rd_T65 l0_4 x5_1).f1), .int .i64 ((rd_T65 l0_4 x5_1).f2), .int .i64 ((rd_T65 l0_4 x5_1).f3)] 65 (0, 0)) (by (with_reducible repeat (first | refine blk_drewN ?_ _ | refine blk_drew ?_ | refine blk_alloc ?_ _)); exact BK154.out) hg (Kd.R_ne HO_4.out BK154.out (by decide))); have n3_ := Aside0.mk ((by rw [hw]; exact below_set (HB.out) GB44.out : Below w.heap.size w w48)); clear HO_4; clear BK152; clear BK154; clear HB; have HO_4 := n0_; have BK152 := n1_; have BK154 := n2_; have HB := n3_; clear n0_ n1_ n2_ n3_; clear hg hw hp_)); try go_wp2_with (first | ((with_reducible refine gate_store (t := 3) (p := 94) rfl ?_); (try (rw [drewN_self wc]; generalize hq_ : World.drewN wc _ = wc; have n0_ := Aside0.mk (Kd.R_at hq_ HO_4.out); have n1_ := Aside0.mk (blk_at hq_ BK152.out); have n2_ := Aside0.mk (blk_at hq_ BK154.out); have n3_ := Aside0.mk (below_at hq_ HB.out); clear hq_ HO_4 BK152 BK154 HB; have HO_4 := n0_; have BK152 := n1_; have BK154 := n2_; have HB := n3_; clear n0_ n1_ n2_ n3_; (try (have HP47 := Kd.R_putg HO_4.out ((ji41) : Int) (wrap64 (-(rd x4_1 (ji41)))))))); refine store_event (t := 3) (p := 94) (v := ?vo_w48) (w1 := (wc.setCell ⟨go44, ((ji41) : Int).toNat, none⟩ (.int .i64 (wrap64 (-(rd x4_1 (ji41))))))) ?hg ?ho ?hn ?hr ?_; (case ho => rfl); (case hg => rfl); (case hn => rfl); (case hr => first | (go_simp; done) | (go_simp; rfl)); intro w48 hw; have hg : wc.grownBy w48 (some go44) := (by rw [hw]; exact HP47.2); have hp_ : Kd.R (Kd.int .i64) 3 w48 w.heap.size (fun _ => True) (.slice (some ⟨go44, 0, none⟩) x4_1.length co15) y161 := (by rw [hw, Ny161.out]; exact HP47.1); clear HP47; have n0_ := Aside0.mk (hp_); have n1_ := Aside0.mk (blk_grown (g := gb152) (o := .cells #[.string a0_0, .int .i64 a0_1, .int .i64 a0_2, .slice A0_3 l0_3.length c0_3, .slice (some ad153) l0_4.length c0_4] 39 (0, 0)) (by (with_reducible repeat (first | refine blk_drewN ?_ _ | refine blk_drew ?_ | refine blk_alloc ?_ _)); exact BK152.out) hg (Kd.R_ne HO_4.out BK152.out (by decide))); have n2_ := Aside0.mk (blk_grown (g := gb154) (o := .cells #[.int .i64 ((rd_T65 l0_4 x5_1).f0), .int .i64 ((rd_T65 l0_4 x5_1).f1), .int .i64 ((rd_T65 l0_4 x5_1).f2), .int .i64 ((rd_T65 l0_4 x5_1).f3)] 65 (0, 0)) (by (with_reducible repeat (first | refine blk_drewN ?_ _ | refine blk_drew ?_ | refine blk_alloc ?_ _)); exact BK154.out) hg (Kd.R_ne HO_4.out BK154.out (by decide))); have n3_ := Aside0.mk ((by rw [hw]; exact below_set (HB.out) GB44.out : Below w.heap.size w w48)); clear HO_4; clear BK152; clear BK154; clear HB; have HO_4 := n0_; have BK152 := n1_; have BK154 := n2_; have HB := n3_; clear n0_ n1_ n2_ n3_; clear hg hw hp_)))
                                  go_roundg kj9
                                  case measure => have := HK1.out; have := HJ2.out; have := HJ9.out; omega
                                  case rel => exact ⟨(y161), ((wrap64 (x5_1 + 1))), (wrap64 (x6_1 + 1)), (by first | rfl | (simp; done) | (simp [*]; done)), (by first | rfl | (simp; done) | (simp [*]; done)), H', ⟨by have := HK1.out; have := HJ2.out; have := HJ9.out; omega⟩, ⟨by (with_reducible repeat (first | apply Kd.R_alloc | apply Kd.R_drewN | apply Kd.R_drew)); exact HO_4.out⟩, ⟨by (with_reducible repeat (first | refine blk_drewN ?_ _ | refine blk_drew ?_ | refine blk_alloc ?_ _)); exact BK152.out⟩, ⟨by repeat (first | (with_reducible first | exact HB.out | apply below_alloc | apply pw_below_drewN | apply below_drew1 | refine below_set ?_ GE152.out | refine below_set ?_ GE154.out) | exact HB.out)⟩⟩
                                · rw [if_neg c43] at H
                                  exact absurd H (by simp)
                              · rw [if_neg c42] at H
                                exact absurd H (by simp)
                            · rw [if_neg c40] at H
                              have c40b0 : (((rd_T65 l0_4 x5_1).f1) == 3) = false := beq_eq_false_iff_ne.mpr c40
                              have c40b1 : (((rd_T65 l0_4 x5_1).f1) != 3) = true := bne_iff_ne.mpr c40
                              simp only [Option.some.injEq, Prod.mk.injEq] at H
                              obtain ⟨rfl, rfl⟩ := H
                              have hnb49 := NB154_152.out
                              have hnc49 := NB152_154.out
                              have hcz50_0 : wc.cell? ⟨gb154, 0, none⟩ = some (.int .i64 ((rd_T65 l0_4 x5_1).f0)) := (blk_cell BK154.out 0).trans rfl
                              have hcz50_1 : wc.cell? ⟨gb154, 1, none⟩ = some (.int .i64 ((rd_T65 l0_4 x5_1).f1)) := (blk_cell BK154.out 1).trans rfl
                              have hcz50_2 : wc.cell? ⟨gb154, 2, none⟩ = some (.int .i64 ((rd_T65 l0_4 x5_1).f2)) := (blk_cell BK154.out 2).trans rfl
                              have hcz50_3 : wc.cell? ⟨gb154, 3, none⟩ = some (.int .i64 ((rd_T65 l0_4 x5_1).f3)) := (blk_cell BK154.out 3).trans rfl
                              have hfz50_0 := blk_frozen BK154.out 0
                              have hfz50_1 := blk_frozen BK154.out 1
                              have hfz50_2 := blk_frozen BK154.out 2
                              have hfz50_3 := blk_frozen BK154.out 3
                              go_wp2
                              repeat (go_quiet (fail); try go_wp2)
                              go_ret2
                              exact ⟨by first | rfl | (simp [errW_none, errW_some] <;> rfl) | (simp [*, errW_none, errW_some] <;> rfl), by repeat (first | (with_reducible first | exact HB.out | apply below_alloc | apply pw_below_drewN | apply below_drew1 | refine below_set ?_ GE152.out | refine below_set ?_ GE154.out) | exact HB.out)⟩
                        · rw [if_neg c38] at H
                          have c38b0 : (((rd_T65 l0_4 x5_1).f0) == 16) = false := beq_eq_false_iff_ne.mpr c38
                          have c38b1 : (((rd_T65 l0_4 x5_1).f0) != 16) = true := bne_iff_ne.mpr c38
                          by_cases c51 : ((rd_T65 l0_4 x5_1).f0) = 17
                          · rw [if_pos c51] at H
                            have c51b0 : (((rd_T65 l0_4 x5_1).f0) == 17) = true := beq_iff_eq.mpr c51
                            have c51b1 : (((rd_T65 l0_4 x5_1).f0) != 17) = false := bne_eq_false_iff_eq.mpr c51
                            clear c51
                            have HC52 := Aside0.mk H
                            clear H
                            go_upto_region 22 with (fail)
                            repeat (go_quiet (fail); go_upto_region 22 with (fail))
                            go_cut [108] (fun v108 wc => ∃ (kq : Nat) (x108_51 : Bool), v108 = .bool x108_51 ∧ Aside0 (trestletop_run.j3 kq x4_1 (wrap64 (x5_1 + 1)) x6_1 (x4_1.length : Int) x108_51 a0_0 a0_1 a0_2 l0_3 l0_4 ((rd_T65 l0_4 x5_1).f0) ((rd_T65 l0_4 x5_1).f1) ((rd_T65 l0_4 x5_1).f2) ((rd_T65 l0_4 x5_1).f3) = some (r1, r2)) ∧ Aside0 (kq ≤ kj9) ∧ Aside0 (Kd.R (Kd.int .i64) 3 wc w.heap.size (fun _ => True) (.slice Ao15 x4_1.length co15) x4_1) ∧ Aside0 (wc.heap[gb152]? = some (.cells #[.string a0_0, .int .i64 a0_1, .int .i64 a0_2, (.slice A0_3 l0_3.length c0_3), (.slice (some ad153) l0_4.length c0_4)] 39 (0, 0))) ∧ Aside0 (wc.heap[gb154]? = some (.cells #[.int .i64 ((rd_T65 l0_4 x5_1).f0), .int .i64 ((rd_T65 l0_4 x5_1).f1), .int .i64 ((rd_T65 l0_4 x5_1).f2), .int .i64 ((rd_T65 l0_4 x5_1).f3)] 65 (0, 0))) ∧ Aside0 (Below w.heap.size w wc))
                            case first =>
                              have H := HC52.out
                              clear HC52
                              by_cases c53 : (x4_1.length : Int) < 2
                              · rw [if_pos c53] at H
                                have c53b0 : decide ((x4_1.length : Int) < 2) = true := decide_eq_true c53
                                have c53b1 : decide (x4_1.length < 2) = true := decide_eq_true (by omega)
                                clear c53
                                (first | rw [c53b0] | (simp only [i64_w, i32_w]; rw [c53b0]) | skip)
                                have H' := Aside0.mk H
                                clear H
                                go_wp2
                                repeat (go_quiet (fail); try go_wp2)
                                go_meet
                                case rel => exact ⟨_, (true), (by first | rfl | (simp; done) | (simp [*]; done)), H', ⟨by have := HK1.out; have := HJ2.out; have := HJ9.out; first | omega | exact Nat.le_refl _⟩, ⟨by (with_reducible repeat (first | apply Kd.R_alloc | apply Kd.R_drewN | apply Kd.R_drew)); exact HO_4.out⟩, ⟨by (with_reducible repeat (first | refine blk_drewN ?_ _ | refine blk_drew ?_ | refine blk_alloc ?_ _)); exact BK152.out⟩, ⟨by (with_reducible repeat (first | refine blk_drewN ?_ _ | refine blk_drew ?_ | refine blk_alloc ?_ _)); exact BK154.out⟩, ⟨by repeat (first | (with_reducible first | exact HB.out | apply below_alloc | apply pw_below_drewN | apply below_drew1 | refine below_set ?_ GE152.out | refine below_set ?_ GE154.out) | exact HB.out)⟩⟩
                              · rw [if_neg c53] at H
                                have c53b0 : decide ((x4_1.length : Int) < 2) = false := decide_eq_false c53
                                have c53b1 : decide (x4_1.length < 2) = false := decide_eq_false (by omega)
                                clear c53
                                (first | rw [c53b0] | (simp only [i64_w, i32_w]; rw [c53b0]) | skip)
                                by_cases c54 : ((rd_T65 l0_4 x5_1).f1) < 1
                                · rw [if_pos c54] at H
                                  have c54b0 : decide (((rd_T65 l0_4 x5_1).f1) < 1) = true := decide_eq_true c54
                                  clear c54
                                  have H' := Aside0.mk H
                                  clear H
                                  have hnb55 := NB154_152.out
                                  have hnc55 := NB152_154.out
                                  have hcz56_0 : wc.cell? ⟨gb154, 0, none⟩ = some (.int .i64 ((rd_T65 l0_4 x5_1).f0)) := (blk_cell BK154.out 0).trans rfl
                                  have hcz56_1 : wc.cell? ⟨gb154, 1, none⟩ = some (.int .i64 ((rd_T65 l0_4 x5_1).f1)) := (blk_cell BK154.out 1).trans rfl
                                  have hcz56_2 : wc.cell? ⟨gb154, 2, none⟩ = some (.int .i64 ((rd_T65 l0_4 x5_1).f2)) := (blk_cell BK154.out 2).trans rfl
                                  have hcz56_3 : wc.cell? ⟨gb154, 3, none⟩ = some (.int .i64 ((rd_T65 l0_4 x5_1).f3)) := (blk_cell BK154.out 3).trans rfl
                                  have hfz56_0 := blk_frozen BK154.out 0
                                  have hfz56_1 := blk_frozen BK154.out 1
                                  have hfz56_2 := blk_frozen BK154.out 2
                                  have hfz56_3 := blk_frozen BK154.out 3
                                  go_wp2
                                  repeat (go_quiet (fail); try go_wp2)
                                  go_meet
                                  case rel => exact ⟨_, (true), (by first | rfl | (simp; done) | (simp [*]; done)), H', ⟨by have := HK1.out; have := HJ2.out; have := HJ9.out; first | omega | exact Nat.le_refl _⟩, ⟨by (with_reducible repeat (first | apply Kd.R_alloc | apply Kd.R_drewN | apply Kd.R_drew)); exact HO_4.out⟩, ⟨by (with_reducible repeat (first | refine blk_drewN ?_ _ | refine blk_drew ?_ | refine blk_alloc ?_ _)); exact BK152.out⟩, ⟨by (with_reducible repeat (first | refine blk_drewN ?_ _ | refine blk_drew ?_ | refine blk_alloc ?_ _)); exact BK154.out⟩, ⟨by repeat (first | (with_reducible first | exact HB.out | apply below_alloc | apply pw_below_drewN | apply below_drew1 | refine below_set ?_ GE152.out | refine below_set ?_ GE154.out) | exact HB.out)⟩⟩
                                · rw [if_neg c54] at H
                                  have c54b0 : decide (((rd_T65 l0_4 x5_1).f1) < 1) = false := decide_eq_false c54
                                  clear c54
                                  have H' := Aside0.mk H
                                  clear H
                                  have hnb57 := NB154_152.out
                                  have hnc57 := NB152_154.out
                                  have hcz58_0 : wc.cell? ⟨gb154, 0, none⟩ = some (.int .i64 ((rd_T65 l0_4 x5_1).f0)) := (blk_cell BK154.out 0).trans rfl
                                  have hcz58_1 : wc.cell? ⟨gb154, 1, none⟩ = some (.int .i64 ((rd_T65 l0_4 x5_1).f1)) := (blk_cell BK154.out 1).trans rfl
                                  have hcz58_2 : wc.cell? ⟨gb154, 2, none⟩ = some (.int .i64 ((rd_T65 l0_4 x5_1).f2)) := (blk_cell BK154.out 2).trans rfl
                                  have hcz58_3 : wc.cell? ⟨gb154, 3, none⟩ = some (.int .i64 ((rd_T65 l0_4 x5_1).f3)) := (blk_cell BK154.out 3).trans rfl
                                  have hfz58_0 := blk_frozen BK154.out 0
                                  have hfz58_1 := blk_frozen BK154.out 1
                                  have hfz58_2 := blk_frozen BK154.out 2
                                  have hfz58_3 := blk_frozen BK154.out 3
                                  go_wp2
                                  repeat (go_quiet (fail); try go_wp2)
                                  go_meet
                                  case rel => exact ⟨_, (decide (((rd_T65 l0_4 x5_1).f1) > 3)), (by first | rfl | (simp; done) | (simp [*]; done)), H', ⟨by have := HK1.out; have := HJ2.out; have := HJ9.out; first | omega | exact Nat.le_refl _⟩, ⟨by (with_reducible repeat (first | apply Kd.R_alloc | apply Kd.R_drewN | apply Kd.R_drew)); exact HO_4.out⟩, ⟨by (with_reducible repeat (first | refine blk_drewN ?_ _ | refine blk_drew ?_ | refine blk_alloc ?_ _)); exact BK152.out⟩, ⟨by (with_reducible repeat (first | refine blk_drewN ?_ _ | refine blk_drew ?_ | refine blk_alloc ?_ _)); exact BK154.out⟩, ⟨by repeat (first | (with_reducible first | exact HB.out | apply below_alloc | apply pw_below_drewN | apply below_drew1 | refine below_set ?_ GE152.out | refine below_set ?_ GE154.out) | exact HB.out)⟩⟩
                            case rest =>
                              clear HC52
                              try clear c1
                              try clear p1
                              try clear q1
                              try clear hx1
                              try clear c2
                              try clear p2
                              try clear c3
                              try clear c4
                              try clear c4b0
                              try clear p4
                              try clear q4
                              try clear hx4
                              try clear hf4
                              try clear c5
                              try clear c5b0
                              try clear c6
                              try clear p6
                              try clear c7
                              try clear c8
                              try clear c8b0
                              try clear c9
                              try clear c9b0
                              try clear c13
                              try clear p15
                              try clear q15
                              try clear hx15
                              try clear c16
                              try clear c16b0
                              try clear c16b1
                              try clear p16
                              try clear q16
                              try clear hx16
                              try clear c17
                              try clear c18
                              try clear c18b0
                              try clear c18b1
                              try clear c19
                              try clear c19b0
                              try clear c20
                              try clear c22
                              try clear c22b0
                              try clear c23
                              try clear c27
                              try clear c27b0
                              try clear c28
                              try clear c28b0
                              try clear c29
                              try clear c29b0
                              try clear c29b1
                              try clear c30
                              try clear c31
                              try clear c35
                              try clear c38
                              try clear c38b0
                              try clear c38b1
                              try clear c39
                              try clear c39b0
                              try clear c39b1
                              try clear c40
                              try clear c40b0
                              try clear c40b1
                              try clear c42
                              try clear c42b0
                              try clear c43
                              try clear c43b0
                              try clear p44
                              try clear q44
                              try clear hx44
                              try clear hf44
                              try clear c45
                              try clear c49
                              try clear c51
                              try clear c51b0
                              try clear c51b1
                              try clear c53
                              try clear c53b0
                              try clear c53b1
                              try clear c54
                              try clear c54b0
                              try clear c55
                              try clear c57
                              try clear hcz11_0
                              try clear hcz11_1
                              try clear hcz11_2
                              try clear hcz11_3
                              try clear hcz11_4
                              try clear hcz14_0
                              try clear hcz14_1
                              try clear hcz14_2
                              try clear hcz14_3
                              try clear hcz21_0
                              try clear hcz21_1
                              try clear hcz21_2
                              try clear hcz21_3
                              try clear hcz24_0
                              try clear hcz24_1
                              try clear hcz24_2
                              try clear hcz24_3
                              try clear hcz25_0
                              try clear hcz25_1
                              try clear hcz25_2
                              try clear hcz25_3
                              try clear hcz25_4
                              try clear hcz32_0
                              try clear hcz32_1
                              try clear hcz32_2
                              try clear hcz32_3
                              try clear hcz33_0
                              try clear hcz33_1
                              try clear hcz33_2
                              try clear hcz33_3
                              try clear hcz33_4
                              try clear hcz36_0
                              try clear hcz36_1
                              try clear hcz36_2
                              try clear hcz36_3
                              try clear hcz37_0
                              try clear hcz37_1
                              try clear hcz37_2
                              try clear hcz37_3
                              try clear hcz37_4
                              try clear hcz46_0
                              try clear hcz46_1
                              try clear hcz46_2
                              try clear hcz46_3
                              try clear hcz50_0
                              try clear hcz50_1
                              try clear hcz50_2
                              try clear hcz50_3
                              try clear hcz56_0
                              try clear hcz56_1
                              try clear hcz56_2
                              try clear hcz56_3
                              try clear hcz58_0
                              try clear hcz58_1
                              try clear hcz58_2
                              try clear hcz58_3
                              try clear hcz6_0
                              try clear hcz6_1
                              try clear hcz6_2
                              try clear hcz6_3
                              try clear hcz6_4
                              try clear hfz11_0
                              try clear hfz11_1
                              try clear hfz11_2
                              try clear hfz11_3
                              try clear hfz11_4
                              try clear hfz14_0
                              try clear hfz14_1
                              try clear hfz14_2
                              try clear hfz14_3
                              try clear hfz21_0
                              try clear hfz21_1
                              try clear hfz21_2
                              try clear hfz21_3
                              try clear hfz24_0
                              try clear hfz24_1
                              try clear hfz24_2
                              try clear hfz24_3
                              try clear hfz25_0
                              try clear hfz25_1
                              try clear hfz25_2
                              try clear hfz25_3
                              try clear hfz25_4
                              try clear hfz32_0
                              try clear hfz32_1
                              try clear hfz32_2
                              try clear hfz32_3
                              try clear hfz33_0
                              try clear hfz33_1
                              try clear hfz33_2
                              try clear hfz33_3
                              try clear hfz33_4
                              try clear hfz36_0
                              try clear hfz36_1
                              try clear hfz36_2
                              try clear hfz36_3
                              try clear hfz37_0
                              try clear hfz37_1
                              try clear hfz37_2
                              try clear hfz37_3
                              try clear hfz37_4
                              try clear hfz46_0
                              try clear hfz46_1
                              try clear hfz46_2
                              try clear hfz46_3
                              try clear hfz50_0
                              try clear hfz50_1
                              try clear hfz50_2
                              try clear hfz50_3
                              try clear hfz56_0
                              try clear hfz56_1
                              try clear hfz56_2
                              try clear hfz56_3
                              try clear hfz58_0
                              try clear hfz58_1
                              try clear hfz58_2
                              try clear hfz58_3
                              try clear hfz6_0
                              try clear hfz6_1
                              try clear hfz6_2
                              try clear hfz6_3
                              try clear hfz6_4
                              try clear hx153_0
                              try clear hx153_1
                              try clear hx153_2
                              try clear hx153_3
                              try clear hx155_0
                              try clear hx155_1
                              try clear hx155_2
                              try clear hx156_0
                              try clear hx156_1
                              try clear hx156_2
                              try clear hx160_0
                              try clear hx44_0
                              try clear p1
                              try clear p15
                              try clear p153
                              try clear p155
                              try clear p156
                              try clear p160
                              try clear p2
                              try clear p44
                              try clear p6
                              try clear q1
                              try clear q15
                              try clear q153
                              try clear q155
                              try clear q156
                              try clear q160
                              try clear q44
                              obtain ⟨kq, x108_51, rfl, HA, HJ51, HO_4, BK152, BK154, HB⟩ := hcut
                              cases kq with
                              | zero => exact absurd HA.out (by simp [trestletop_run.j3])
                              | succ kj51 =>
                                have H := HA.out
                                clear HA
                                simp only [trestletop_run.j3] at H
                                by_cases c59 : x108_51 = true
                                · subst c59
                                  have H1 : (some (0, false)) = some (r1, r2) := by rw [if_pos rfl] at H; exact H
                                  clear H
                                  have H := H1
                                  clear H1
                                  simp only [Option.some.injEq, Prod.mk.injEq] at H
                                  obtain ⟨rfl, rfl⟩ := H
                                  go_wp2
                                  repeat (go_quiet (fail); try go_wp2)
                                  go_ret2
                                  exact ⟨by first | rfl | (simp [errW_none, errW_some] <;> rfl) | (simp [*, errW_none, errW_some] <;> rfl), by repeat (first | (with_reducible first | exact HB.out | apply below_alloc | apply pw_below_drewN | apply below_drew1 | refine below_set ?_ GE152.out | refine below_set ?_ GE154.out) | exact HB.out)⟩
                                · replace c59 := Bool.eq_false_iff.mpr c59
                                  subst c59
                                  have H1 : (if 0 ≤ (wrap64 ((x4_1.length : Int) - 2)) then (if (wrap64 ((x4_1.length : Int) - 2)) < (x4_1.length : Int) then (if 0 ≤ (wrap64 ((x4_1.length : Int) - 1)) then (if (wrap64 ((x4_1.length : Int) - 1)) < (x4_1.length : Int) then (if ((rd_T65 l0_4 x5_1).f1) = 2 then (if ((rd_T65 l0_4 x5_1).f1) = 3 then (if (wrap64 ((x4_1.length : Int) - 2)) ≤ (x4_1.length : Int) then ((some (x4_1.take ((wrap64 ((x4_1.length : Int) - 2)) : Int).toNat : List Int)).bind fun y164 => (if y164.length < 17592186044416 then (trestletop_run.l0 kj51 (y164 ++ [wrap64 ((rd x4_1 (wrap64 ((x4_1.length : Int) - 2))) * (rd x4_1 (wrap64 ((x4_1.length : Int) - 1))))]) (wrap64 (x5_1 + 1)) (wrap64 (x6_1 + 1)) a0_0 a0_1 a0_2 l0_3 l0_4) else (none))) else (none)) else (if (wrap64 ((x4_1.length : Int) - 2)) ≤ (x4_1.length : Int) then ((some (x4_1.take ((wrap64 ((x4_1.length : Int) - 2)) : Int).toNat : List Int)).bind fun y170 => (if y170.length < 17592186044416 then (trestletop_run.l0 kj51 (y170 ++ [wrap64 ((rd x4_1 (wrap64 ((x4_1.length : Int) - 2))) - (rd x4_1 (wrap64 ((x4_1.length : Int) - 1))))]) (wrap64 (x5_1 + 1)) (wrap64 (x6_1 + 1)) a0_0 a0_1 a0_2 l0_3 l0_4) else (none))) else (none))) else (if ((rd_T65 l0_4 x5_1).f1) = 3 then (if (wrap64 ((x4_1.length : Int) - 2)) ≤ (x4_1.length : Int) then ((some (x4_1.take ((wrap64 ((x4_1.length : Int) - 2)) : Int).toNat : List Int)).bind fun y176 => (if y176.length < 17592186044416 then (trestletop_run.l0 kj51 (y176 ++ [wrap64 ((rd x4_1 (wrap64 ((x4_1.length : Int) - 2))) * (rd x4_1 (wrap64 ((x4_1.length : Int) - 1))))]) (wrap64 (x5_1 + 1)) (wrap64 (x6_1 + 1)) a0_0 a0_1 a0_2 l0_3 l0_4) else (none))) else (none)) else (if (wrap64 ((x4_1.length : Int) - 2)) ≤ (x4_1.length : Int) then ((some (x4_1.take ((wrap64 ((x4_1.length : Int) - 2)) : Int).toNat : List Int)).bind fun y182 => (if y182.length < 17592186044416 then (trestletop_run.l0 kj51 (y182 ++ [wrap64 ((rd x4_1 (wrap64 ((x4_1.length : Int) - 2))) + (rd x4_1 (wrap64 ((x4_1.length : Int) - 1))))]) (wrap64 (x5_1 + 1)) (wrap64 (x6_1 + 1)) a0_0 a0_1 a0_2 l0_3 l0_4) else (none))) else (none)))) else (none)) else (none)) else (none)) else (none)) = some (r1, r2) := by rw [if_neg (show ¬ (false = true) by decide)] at H; exact H
                                  clear H
                                  have H := H1
                                  clear H1
                                  obtain ⟨ji60, hji60⟩ : ∃ j_ : Int, (wrap64 ((x4_1.length : Int) - 2)) = j_ := ⟨_, rfl⟩
                                  replace H : (if 0 ≤ (ji60) then (if (ji60) < (x4_1.length : Int) then (if 0 ≤ (wrap64 ((x4_1.length : Int) - 1)) then (if (wrap64 ((x4_1.length : Int) - 1)) < (x4_1.length : Int) then (if ((rd_T65 l0_4 x5_1).f1) = 2 then (if ((rd_T65 l0_4 x5_1).f1) = 3 then (if (ji60) ≤ (x4_1.length : Int) then ((some (x4_1.take ((ji60) : Int).toNat : List Int)).bind fun y164 => (if y164.length < 17592186044416 then (trestletop_run.l0 kj51 (y164 ++ [wrap64 ((rd x4_1 (ji60)) * (rd x4_1 (wrap64 ((x4_1.length : Int) - 1))))]) (wrap64 (x5_1 + 1)) (wrap64 (x6_1 + 1)) a0_0 a0_1 a0_2 l0_3 l0_4) else (none))) else (none)) else (if (ji60) ≤ (x4_1.length : Int) then ((some (x4_1.take ((ji60) : Int).toNat : List Int)).bind fun y170 => (if y170.length < 17592186044416 then (trestletop_run.l0 kj51 (y170 ++ [wrap64 ((rd x4_1 (ji60)) - (rd x4_1 (wrap64 ((x4_1.length : Int) - 1))))]) (wrap64 (x5_1 + 1)) (wrap64 (x6_1 + 1)) a0_0 a0_1 a0_2 l0_3 l0_4) else (none))) else (none))) else (if ((rd_T65 l0_4 x5_1).f1) = 3 then (if (ji60) ≤ (x4_1.length : Int) then ((some (x4_1.take ((ji60) : Int).toNat : List Int)).bind fun y176 => (if y176.length < 17592186044416 then (trestletop_run.l0 kj51 (y176 ++ [wrap64 ((rd x4_1 (ji60)) * (rd x4_1 (wrap64 ((x4_1.length : Int) - 1))))]) (wrap64 (x5_1 + 1)) (wrap64 (x6_1 + 1)) a0_0 a0_1 a0_2 l0_3 l0_4) else (none))) else (none)) else (if (ji60) ≤ (x4_1.length : Int) then ((some (x4_1.take ((ji60) : Int).toNat : List Int)).bind fun y182 => (if y182.length < 17592186044416 then (trestletop_run.l0 kj51 (y182 ++ [wrap64 ((rd x4_1 (ji60)) + (rd x4_1 (wrap64 ((x4_1.length : Int) - 1))))]) (wrap64 (x5_1 + 1)) (wrap64 (x6_1 + 1)) a0_0 a0_1 a0_2 l0_3 l0_4) else (none))) else (none)))) else (none)) else (none)) else (none)) else (none)) = some (r1, r2) := by first | (rw [hji60] at H; exact H) | (simp only [hji60] at H ⊢; exact H)
                                  have hji60w : (IntKind.i64.wrap ((x4_1.length : Int) - 2)) = ji60 := (i64_w _).trans hji60
                                  by_cases c61 : 0 ≤ (ji60)
                                  · rw [if_pos c61] at H
                                    have c61b0 : decide (0 ≤ (ji60)) = true := decide_eq_true c61
                                    clear c61
                                    by_cases c62 : (ji60) < (x4_1.length : Int)
                                    · rw [if_pos c62] at H
                                      have c62b0 : decide ((ji60) < (x4_1.length : Int)) = true := decide_eq_true c62
                                      clear c62
                                      obtain ⟨ji63, hji63⟩ : ∃ j_ : Int, (wrap64 ((x4_1.length : Int) - 1)) = j_ := ⟨_, rfl⟩
                                      replace H : (if 0 ≤ (ji63) then (if (ji63) < (x4_1.length : Int) then (if ((rd_T65 l0_4 x5_1).f1) = 2 then (if ((rd_T65 l0_4 x5_1).f1) = 3 then (if (ji60) ≤ (x4_1.length : Int) then ((some (x4_1.take ((ji60) : Int).toNat : List Int)).bind fun y164 => (if y164.length < 17592186044416 then (trestletop_run.l0 kj51 (y164 ++ [wrap64 ((rd x4_1 (ji60)) * (rd x4_1 (ji63)))]) (wrap64 (x5_1 + 1)) (wrap64 (x6_1 + 1)) a0_0 a0_1 a0_2 l0_3 l0_4) else (none))) else (none)) else (if (ji60) ≤ (x4_1.length : Int) then ((some (x4_1.take ((ji60) : Int).toNat : List Int)).bind fun y170 => (if y170.length < 17592186044416 then (trestletop_run.l0 kj51 (y170 ++ [wrap64 ((rd x4_1 (ji60)) - (rd x4_1 (ji63)))]) (wrap64 (x5_1 + 1)) (wrap64 (x6_1 + 1)) a0_0 a0_1 a0_2 l0_3 l0_4) else (none))) else (none))) else (if ((rd_T65 l0_4 x5_1).f1) = 3 then (if (ji60) ≤ (x4_1.length : Int) then ((some (x4_1.take ((ji60) : Int).toNat : List Int)).bind fun y176 => (if y176.length < 17592186044416 then (trestletop_run.l0 kj51 (y176 ++ [wrap64 ((rd x4_1 (ji60)) * (rd x4_1 (ji63)))]) (wrap64 (x5_1 + 1)) (wrap64 (x6_1 + 1)) a0_0 a0_1 a0_2 l0_3 l0_4) else (none))) else (none)) else (if (ji60) ≤ (x4_1.length : Int) then ((some (x4_1.take ((ji60) : Int).toNat : List Int)).bind fun y182 => (if y182.length < 17592186044416 then (trestletop_run.l0 kj51 (y182 ++ [wrap64 ((rd x4_1 (ji60)) + (rd x4_1 (ji63)))]) (wrap64 (x5_1 + 1)) (wrap64 (x6_1 + 1)) a0_0 a0_1 a0_2 l0_3 l0_4) else (none))) else (none)))) else (none)) else (none)) = some (r1, r2) := by first | (rw [hji63] at H; exact H) | (simp only [hji63] at H ⊢; exact H)
                                      have hji63w : (IntKind.i64.wrap ((x4_1.length : Int) - 1)) = ji63 := (i64_w _).trans hji63
                                      by_cases c64 : 0 ≤ (ji63)
                                      · rw [if_pos c64] at H
                                        have c64b0 : decide (0 ≤ (ji63)) = true := decide_eq_true c64
                                        clear c64
                                        by_cases c65 : (ji63) < (x4_1.length : Int)
                                        · rw [if_pos c65] at H
                                          have c65b0 : decide ((ji63) < (x4_1.length : Int)) = true := decide_eq_true c65
                                          clear c65
                                          by_cases c66 : ((rd_T65 l0_4 x5_1).f1) = 2
                                          · rw [if_pos c66] at H
                                            have c66b0 : (((rd_T65 l0_4 x5_1).f1) == 2) = true := beq_iff_eq.mpr c66
                                            have c66b1 : (((rd_T65 l0_4 x5_1).f1) != 2) = false := bne_eq_false_iff_eq.mpr c66
                                            clear c66
                                            by_cases c67 : ((rd_T65 l0_4 x5_1).f1) = 3
                                            · rw [if_pos c67] at H
                                              have c67b0 : (((rd_T65 l0_4 x5_1).f1) == 3) = true := beq_iff_eq.mpr c67
                                              have c67b1 : (((rd_T65 l0_4 x5_1).f1) != 3) = false := bne_eq_false_iff_eq.mpr c67
                                              clear c67
                                              by_cases c68 : (ji60) ≤ (x4_1.length : Int)
                                              · rw [if_pos c68] at H
                                                have c68b0 := eq_true c68
                                                have c68b1 : decide ((ji60) ≤ (x4_1.length : Int)) = true := decide_eq_true c68
                                                clear c68
                                                obtain ⟨y164, hy164⟩ : ∃ y_ : List Int, y_ = (x4_1.take ((ji60) : Int).toNat) := ⟨_, rfl⟩
                                                replace H : (if y164.length < 17592186044416 then (trestletop_run.l0 kj51 (y164 ++ [wrap64 ((rd x4_1 (ji60)) * (rd x4_1 (ji63)))]) (wrap64 (x5_1 + 1)) (wrap64 (x6_1 + 1)) a0_0 a0_1 a0_2 l0_3 l0_4) else (none)) = some (r1, r2) := by first | (rw [hy164]; with_reducible exact H) | (have H2_ := (Option.bind_some _ _).symm.trans H; rw [hy164]; with_reducible exact H2_) | (have H2_ := (Option.bind_some _ _).symm.trans H; with_reducible exact H2_) | with_reducible exact H | (rw [hy164]; exact H) | exact H
                                                have Ny164 := Aside0.mk hy164
                                                clear hy164
                                                by_cases c69 : y164.length < 17592186044416
                                                · rw [if_pos c69] at H
                                                  have LMc69 := Aside0.mk c69
                                                  clear c69
                                                  obtain ⟨y167, hy167⟩ : ∃ y_ : List Int, y_ = (y164 ++ [wrap64 ((rd x4_1 (ji60)) * (rd x4_1 (ji63)))]) := ⟨_, rfl⟩
                                                  replace H : (trestletop_run.l0 kj51 y167 (wrap64 (x5_1 + 1)) (wrap64 (x6_1 + 1)) a0_0 a0_1 a0_2 l0_3 l0_4) = some (r1, r2) := by first | (rw [hy167]; with_reducible exact H) | (have H2_ := (Option.bind_some _ _).symm.trans H; rw [hy167]; with_reducible exact H2_) | (have H2_ := (Option.bind_some _ _).symm.trans H; with_reducible exact H2_) | with_reducible exact H | (rw [hy167]; exact H) | exact H
                                                  have Ny167 := Aside0.mk hy167
                                                  clear hy167
                                                  have H' := Aside0.mk H
                                                  clear H
                                                  have p162 : 0 ≤ ((ji60) : Int) := of_decide_eq_true (by first | (with_reducible assumption) | assumption)
                                                  have q162 : (ji60) < (x4_1.length : Int) := of_decide_eq_true (by first | (with_reducible assumption) | assumption)
                                                  obtain ⟨ad162, e162, hx162_0⟩ := Kd.at_int (Kd.R_reads' HO_4.out).2.2 (ji60) p162 q162
                                                  cases e162
                                                  replace p162 := eq_true p162
                                                  replace q162 := eq_true q162
                                                  have p163 : 0 ≤ ((ji63) : Int) := of_decide_eq_true (by first | (with_reducible assumption) | assumption)
                                                  have q163 : (ji63) < (x4_1.length : Int) := of_decide_eq_true (by first | (with_reducible assumption) | assumption)
                                                  obtain ⟨ad163, e163, hx163_0⟩ := Kd.at_int (Kd.R_reads' HO_4.out).2.2 (ji63) p163 q163
                                                  obtain rfl : ad162 = ad163 := (by injection e163)
                                                  replace p163 := eq_true p163
                                                  replace q163 := eq_true q163
                                                  have hnb70 := NB154_152.out
                                                  have hnc70 := NB152_154.out
                                                  have hcz71_0 : wc.cell? ⟨gb154, 0, none⟩ = some (.int .i64 ((rd_T65 l0_4 x5_1).f0)) := (blk_cell BK154.out 0).trans rfl
                                                  have hcz71_1 : wc.cell? ⟨gb154, 1, none⟩ = some (.int .i64 ((rd_T65 l0_4 x5_1).f1)) := (blk_cell BK154.out 1).trans rfl
                                                  have hcz71_2 : wc.cell? ⟨gb154, 2, none⟩ = some (.int .i64 ((rd_T65 l0_4 x5_1).f2)) := (blk_cell BK154.out 2).trans rfl
                                                  have hcz71_3 : wc.cell? ⟨gb154, 3, none⟩ = some (.int .i64 ((rd_T65 l0_4 x5_1).f3)) := (blk_cell BK154.out 3).trans rfl
                                                  have hfz71_0 := blk_frozen BK154.out 0
                                                  have hfz71_1 := blk_frozen BK154.out 1
                                                  have hfz71_2 := blk_frozen BK154.out 2
                                                  have hfz71_3 := blk_frozen BK154.out 3
                                                  have q72 : ((ji60) : Int) ≤ ((x4_1.length : Int) : Int) := of_decide_eq_true (by first | (with_reducible assumption) | assumption)
                                                  obtain ⟨i072, hi072, _, hsz72, _⟩ := info_parts info3
                                                  have hcut72 := cut_to (P := Tryz.prog) 63 3 .i64 Tryz.underlying63 hi072 (some ad162) x4_1.length co15 (ji60) (of_decide_eq_true (by first | (with_reducible assumption) | assumption)) q72 (Kd.R_reads' HO_4.out).2.1
                                                  have hr72 := Kd.R_take (m := ((ji60) : Int).toNat) HO_4.out (by omega)
                                                  have hy72 : y164.length = ((ji60) : Int).toNat := (by rw [Ny164.out, List.length_take]; omega)
                                                  rw [← Ny164.out] at hr72
                                                  rw [← hy72] at hr72 hcut72
                                                  clear hy72 hi072 hsz72 HO_4
                                                  have HO166 := Aside0.mk hr72
                                                  clear hr72
                                                  replace q72 := eq_true q72
                                                  go_wp2_with (first | ((with_reducible refine gate_builtin (b := .append) (xs := #[.tmp 137, .tmp 139]) rfl ?_); (try (refine gate_guard (by rfl) ?_; dsimp only)); at_builtin; refine Kd.R_append (Kd.int .i64) (w0 := w) w.heap.size rfl (.tmp 137) (.tmp 139) 63 3 (.int .i64 0) 8 rfl Tryz.underlying63 info3 rfl (by decide) (by omega) (.slice (some ad162) y164.length co15) y164 (wrap64 ((rd x4_1 (ji60)) * (rd x4_1 (ji63)))) [.int .i64 (wrap64 ((rd x4_1 (ji60)) * (rd x4_1 (ji63))))] (fun _ => True) (fun _ => False) rfl rfl ?aP (fun _ hk => hk.elim) ?aF ?aO ?aB ?aS ?aL ?_; (case aP => exact rfl); (case aB => exact (by repeat (first | (with_reducible first | exact HB.out | apply below_alloc | apply pw_below_drewN | apply below_drew1 | refine below_set ?_ GE152.out | refine below_set ?_ GE154.out) | exact HB.out))); (case aF => exact (fun _ _ => trivial)); (case aO => exact (by (with_reducible repeat (first | apply Kd.R_alloc | apply Kd.R_drewN | apply Kd.R_drew)); exact HO166.out)); (case aS => exact (below_size (by repeat (first | (with_reducible first | exact HB.out | apply below_alloc | apply pw_below_drewN | apply below_drew1 | refine below_set ?_ GE152.out | refine below_set ?_ GE154.out) | exact HB.out)))); (case aL => have := LMc69.out; omega); intro v168 w73 ho hb hg hat; rw [← Ny167.out] at ho; have n0_ := Aside0.mk (blk_grown (g := gb152) (o := .cells #[.string a0_0, .int .i64 a0_1, .int .i64 a0_2, .slice A0_3 l0_3.length c0_3, .slice (some ad153) l0_4.length c0_4] 39 (0, 0)) (by (with_reducible repeat (first | refine blk_drewN ?_ _ | refine blk_drew ?_ | refine blk_alloc ?_ _)); exact BK152.out) hg (Kd.R_ne HO166.out BK152.out (by decide))); have n1_ := Aside0.mk (blk_grown (g := gb154) (o := .cells #[.int .i64 ((rd_T65 l0_4 x5_1).f0), .int .i64 ((rd_T65 l0_4 x5_1).f1), .int .i64 ((rd_T65 l0_4 x5_1).f2), .int .i64 ((rd_T65 l0_4 x5_1).f3)] 65 (0, 0)) (by (with_reducible repeat (first | refine blk_drewN ?_ _ | refine blk_drew ?_ | refine blk_alloc ?_ _)); exact BK154.out) hg (Kd.R_ne HO166.out BK154.out (by decide))); have n2_ := Aside0.mk (hb); have n3_ := Aside0.mk (ho); clear BK152; clear BK154; clear HB; clear HO166; have BK152 := n0_; have BK154 := n1_; have HB := n2_; have HO169 := n3_; clear n0_ n1_ n2_ n3_; clear ho hb hg hat))
                                                  repeat (go_quiet (first | ((with_reducible refine gate_builtin (b := .append) (xs := #[.tmp 137, .tmp 139]) rfl ?_); (try (refine gate_guard (by rfl) ?_; dsimp only)); at_builtin; refine Kd.R_append (Kd.int .i64) (w0 := w) w.heap.size rfl (.tmp 137) (.tmp 139) 63 3 (.int .i64 0) 8 rfl Tryz.underlying63 info3 rfl (by decide) (by omega) (.slice (some ad162) y164.length co15) y164 (wrap64 ((rd x4_1 (ji60)) * (rd x4_1 (ji63)))) [.int .i64 (wrap64 ((rd x4_1 (ji60)) * (rd x4_1 (ji63))))] (fun _ => True) (fun _ => False) rfl rfl ?aP (fun _ hk => hk.elim) ?aF ?aO ?aB ?aS ?aL ?_; (case aP => exact rfl); (case aB => exact (by repeat (first | (with_reducible first | exact HB.out | apply below_alloc | apply pw_below_drewN | apply below_drew1 | refine below_set ?_ GE152.out | refine below_set ?_ GE154.out) | exact HB.out))); (case aF => exact (fun _ _ => trivial)); (case aO => exact (by (with_reducible repeat (first | apply Kd.R_alloc | apply Kd.R_drewN | apply Kd.R_drew)); exact HO166.out)); (case aS => exact (below_size (by repeat (first | (with_reducible first | exact HB.out | apply below_alloc | apply pw_below_drewN | apply below_drew1 | refine below_set ?_ GE152.out | refine below_set ?_ GE154.out) | exact HB.out)))); (case aL => have := LMc69.out; omega); intro v168 w73 ho hb hg hat; rw [← Ny167.out] at ho; have n0_ := Aside0.mk (blk_grown (g := gb152) (o := .cells #[.string a0_0, .int .i64 a0_1, .int .i64 a0_2, .slice A0_3 l0_3.length c0_3, .slice (some ad153) l0_4.length c0_4] 39 (0, 0)) (by (with_reducible repeat (first | refine blk_drewN ?_ _ | refine blk_drew ?_ | refine blk_alloc ?_ _)); exact BK152.out) hg (Kd.R_ne HO166.out BK152.out (by decide))); have n1_ := Aside0.mk (blk_grown (g := gb154) (o := .cells #[.int .i64 ((rd_T65 l0_4 x5_1).f0), .int .i64 ((rd_T65 l0_4 x5_1).f1), .int .i64 ((rd_T65 l0_4 x5_1).f2), .int .i64 ((rd_T65 l0_4 x5_1).f3)] 65 (0, 0)) (by (with_reducible repeat (first | refine blk_drewN ?_ _ | refine blk_drew ?_ | refine blk_alloc ?_ _)); exact BK154.out) hg (Kd.R_ne HO166.out BK154.out (by decide))); have n2_ := Aside0.mk (hb); have n3_ := Aside0.mk (ho); clear BK152; clear BK154; clear HB; clear HO166; have BK152 := n0_; have BK154 := n1_; have HB := n2_; have HO169 := n3_; clear n0_ n1_ n2_ n3_; clear ho hb hg hat)); try go_wp2_with (first | ((with_reducible refine gate_builtin (b := .append) (xs := #[.tmp 137, .tmp 139]) rfl ?_); (try (refine gate_guard (by rfl) ?_; dsimp only)); at_builtin; refine Kd.R_append (Kd.int .i64) (w0 := w) w.heap.size rfl (.tmp 137) (.tmp 139) 63 3 (.int .i64 0) 8 rfl Tryz.underlying63 info3 rfl (by decide) (by omega) (.slice (some ad162) y164.length co15) y164 (wrap64 ((rd x4_1 (ji60)) * (rd x4_1 (ji63)))) [.int .i64 (wrap64 ((rd x4_1 (ji60)) * (rd x4_1 (ji63))))] (fun _ => True) (fun _ => False) rfl rfl ?aP (fun _ hk => hk.elim) ?aF ?aO ?aB ?aS ?aL ?_; (case aP => exact rfl); (case aB => exact (by repeat (first | (with_reducible first | exact HB.out | apply below_alloc | apply pw_below_drewN | apply below_drew1 | refine below_set ?_ GE152.out | refine below_set ?_ GE154.out) | exact HB.out))); (case aF => exact (fun _ _ => trivial)); (case aO => exact (by (with_reducible repeat (first | apply Kd.R_alloc | apply Kd.R_drewN | apply Kd.R_drew)); exact HO166.out)); (case aS => exact (below_size (by repeat (first | (with_reducible first | exact HB.out | apply below_alloc | apply pw_below_drewN | apply below_drew1 | refine below_set ?_ GE152.out | refine below_set ?_ GE154.out) | exact HB.out)))); (case aL => have := LMc69.out; omega); intro v168 w73 ho hb hg hat; rw [← Ny167.out] at ho; have n0_ := Aside0.mk (blk_grown (g := gb152) (o := .cells #[.string a0_0, .int .i64 a0_1, .int .i64 a0_2, .slice A0_3 l0_3.length c0_3, .slice (some ad153) l0_4.length c0_4] 39 (0, 0)) (by (with_reducible repeat (first | refine blk_drewN ?_ _ | refine blk_drew ?_ | refine blk_alloc ?_ _)); exact BK152.out) hg (Kd.R_ne HO166.out BK152.out (by decide))); have n1_ := Aside0.mk (blk_grown (g := gb154) (o := .cells #[.int .i64 ((rd_T65 l0_4 x5_1).f0), .int .i64 ((rd_T65 l0_4 x5_1).f1), .int .i64 ((rd_T65 l0_4 x5_1).f2), .int .i64 ((rd_T65 l0_4 x5_1).f3)] 65 (0, 0)) (by (with_reducible repeat (first | refine blk_drewN ?_ _ | refine blk_drew ?_ | refine blk_alloc ?_ _)); exact BK154.out) hg (Kd.R_ne HO166.out BK154.out (by decide))); have n2_ := Aside0.mk (hb); have n3_ := Aside0.mk (ho); clear BK152; clear BK154; clear HB; clear HO166; have BK152 := n0_; have BK154 := n1_; have HB := n2_; have HO169 := n3_; clear n0_ n1_ n2_ n3_; clear ho hb hg hat)))
                                                  go_roundg kj51
                                                  case measure => have := HK1.out; have := HJ2.out; have := HJ9.out; have := HJ51.out; omega
                                                  case rel => exact ⟨(y167), ((wrap64 (x5_1 + 1))), (wrap64 (x6_1 + 1)), (by first | rfl | (simp; done) | (simp [*]; done)), (by first | rfl | (simp; done) | (simp [*]; done)), H', ⟨by have := HK1.out; have := HJ2.out; have := HJ9.out; have := HJ51.out; omega⟩, ⟨by (with_reducible repeat (first | apply Kd.R_alloc | apply Kd.R_drewN | apply Kd.R_drew)); exact HO169.out⟩, ⟨by (with_reducible repeat (first | refine blk_drewN ?_ _ | refine blk_drew ?_ | refine blk_alloc ?_ _)); exact BK152.out⟩, ⟨by repeat (first | (with_reducible first | exact HB.out | apply below_alloc | apply pw_below_drewN | apply below_drew1 | refine below_set ?_ GE152.out | refine below_set ?_ GE154.out) | exact HB.out)⟩⟩
                                                · rw [if_neg c69] at H
                                                  exact absurd H (by simp)
                                              · rw [if_neg c68] at H
                                                exact absurd H (by simp)
                                            · rw [if_neg c67] at H
                                              have c67b0 : (((rd_T65 l0_4 x5_1).f1) == 3) = false := beq_eq_false_iff_ne.mpr c67
                                              have c67b1 : (((rd_T65 l0_4 x5_1).f1) != 3) = true := bne_iff_ne.mpr c67
                                              by_cases c74 : (ji60) ≤ (x4_1.length : Int)
                                              · rw [if_pos c74] at H
                                                have c74b0 := eq_true c74
                                                have c74b1 : decide ((ji60) ≤ (x4_1.length : Int)) = true := decide_eq_true c74
                                                clear c74
                                                obtain ⟨y170, hy170⟩ : ∃ y_ : List Int, y_ = (x4_1.take ((ji60) : Int).toNat) := ⟨_, rfl⟩
                                                replace H : (if y170.length < 17592186044416 then (trestletop_run.l0 kj51 (y170 ++ [wrap64 ((rd x4_1 (ji60)) - (rd x4_1 (ji63)))]) (wrap64 (x5_1 + 1)) (wrap64 (x6_1 + 1)) a0_0 a0_1 a0_2 l0_3 l0_4) else (none)) = some (r1, r2) := by first | (rw [hy170]; with_reducible exact H) | (have H2_ := (Option.bind_some _ _).symm.trans H; rw [hy170]; with_reducible exact H2_) | (have H2_ := (Option.bind_some _ _).symm.trans H; with_reducible exact H2_) | with_reducible exact H | (rw [hy170]; exact H) | exact H
                                                have Ny170 := Aside0.mk hy170
                                                clear hy170
                                                by_cases c75 : y170.length < 17592186044416
                                                · rw [if_pos c75] at H
                                                  have LMc75 := Aside0.mk c75
                                                  clear c75
                                                  obtain ⟨y173, hy173⟩ : ∃ y_ : List Int, y_ = (y170 ++ [wrap64 ((rd x4_1 (ji60)) - (rd x4_1 (ji63)))]) := ⟨_, rfl⟩
                                                  replace H : (trestletop_run.l0 kj51 y173 (wrap64 (x5_1 + 1)) (wrap64 (x6_1 + 1)) a0_0 a0_1 a0_2 l0_3 l0_4) = some (r1, r2) := by first | (rw [hy173]; with_reducible exact H) | (have H2_ := (Option.bind_some _ _).symm.trans H; rw [hy173]; with_reducible exact H2_) | (have H2_ := (Option.bind_some _ _).symm.trans H; with_reducible exact H2_) | with_reducible exact H | (rw [hy173]; exact H) | exact H
                                                  have Ny173 := Aside0.mk hy173
                                                  clear hy173
                                                  have H' := Aside0.mk H
                                                  clear H
                                                  have p162 : 0 ≤ ((ji60) : Int) := of_decide_eq_true (by first | (with_reducible assumption) | assumption)
                                                  have q162 : (ji60) < (x4_1.length : Int) := of_decide_eq_true (by first | (with_reducible assumption) | assumption)
                                                  obtain ⟨ad162, e162, hx162_0⟩ := Kd.at_int (Kd.R_reads' HO_4.out).2.2 (ji60) p162 q162
                                                  cases e162
                                                  replace p162 := eq_true p162
                                                  replace q162 := eq_true q162
                                                  have p163 : 0 ≤ ((ji63) : Int) := of_decide_eq_true (by first | (with_reducible assumption) | assumption)
                                                  have q163 : (ji63) < (x4_1.length : Int) := of_decide_eq_true (by first | (with_reducible assumption) | assumption)
                                                  obtain ⟨ad163, e163, hx163_0⟩ := Kd.at_int (Kd.R_reads' HO_4.out).2.2 (ji63) p163 q163
                                                  obtain rfl : ad162 = ad163 := (by injection e163)
                                                  replace p163 := eq_true p163
                                                  replace q163 := eq_true q163
                                                  have hnb76 := NB154_152.out
                                                  have hnc76 := NB152_154.out
                                                  have hcz77_0 : wc.cell? ⟨gb154, 0, none⟩ = some (.int .i64 ((rd_T65 l0_4 x5_1).f0)) := (blk_cell BK154.out 0).trans rfl
                                                  have hcz77_1 : wc.cell? ⟨gb154, 1, none⟩ = some (.int .i64 ((rd_T65 l0_4 x5_1).f1)) := (blk_cell BK154.out 1).trans rfl
                                                  have hcz77_2 : wc.cell? ⟨gb154, 2, none⟩ = some (.int .i64 ((rd_T65 l0_4 x5_1).f2)) := (blk_cell BK154.out 2).trans rfl
                                                  have hcz77_3 : wc.cell? ⟨gb154, 3, none⟩ = some (.int .i64 ((rd_T65 l0_4 x5_1).f3)) := (blk_cell BK154.out 3).trans rfl
                                                  have hfz77_0 := blk_frozen BK154.out 0
                                                  have hfz77_1 := blk_frozen BK154.out 1
                                                  have hfz77_2 := blk_frozen BK154.out 2
                                                  have hfz77_3 := blk_frozen BK154.out 3
                                                  have q78 : ((ji60) : Int) ≤ ((x4_1.length : Int) : Int) := of_decide_eq_true (by first | (with_reducible assumption) | assumption)
                                                  obtain ⟨i078, hi078, _, hsz78, _⟩ := info_parts info3
                                                  have hcut78 := cut_to (P := Tryz.prog) 63 3 .i64 Tryz.underlying63 hi078 (some ad162) x4_1.length co15 (ji60) (of_decide_eq_true (by first | (with_reducible assumption) | assumption)) q78 (Kd.R_reads' HO_4.out).2.1
                                                  have hr78 := Kd.R_take (m := ((ji60) : Int).toNat) HO_4.out (by omega)
                                                  have hy78 : y170.length = ((ji60) : Int).toNat := (by rw [Ny170.out, List.length_take]; omega)
                                                  rw [← Ny170.out] at hr78
                                                  rw [← hy78] at hr78 hcut78
                                                  clear hy78 hi078 hsz78 HO_4
                                                  have HO172 := Aside0.mk hr78
                                                  clear hr78
                                                  replace q78 := eq_true q78
                                                  go_wp2_with (first | ((with_reducible refine gate_builtin (b := .append) (xs := #[.tmp 137, .tmp 139]) rfl ?_); (try (refine gate_guard (by rfl) ?_; dsimp only)); at_builtin; refine Kd.R_append (Kd.int .i64) (w0 := w) w.heap.size rfl (.tmp 137) (.tmp 139) 63 3 (.int .i64 0) 8 rfl Tryz.underlying63 info3 rfl (by decide) (by omega) (.slice (some ad162) y170.length co15) y170 (wrap64 ((rd x4_1 (ji60)) - (rd x4_1 (ji63)))) [.int .i64 (wrap64 ((rd x4_1 (ji60)) - (rd x4_1 (ji63))))] (fun _ => True) (fun _ => False) rfl rfl ?aP (fun _ hk => hk.elim) ?aF ?aO ?aB ?aS ?aL ?_; (case aP => exact rfl); (case aB => exact (by repeat (first | (with_reducible first | exact HB.out | apply below_alloc | apply pw_below_drewN | apply below_drew1 | refine below_set ?_ GE152.out | refine below_set ?_ GE154.out) | exact HB.out))); (case aF => exact (fun _ _ => trivial)); (case aO => exact (by (with_reducible repeat (first | apply Kd.R_alloc | apply Kd.R_drewN | apply Kd.R_drew)); exact HO172.out)); (case aS => exact (below_size (by repeat (first | (with_reducible first | exact HB.out | apply below_alloc | apply pw_below_drewN | apply below_drew1 | refine below_set ?_ GE152.out | refine below_set ?_ GE154.out) | exact HB.out)))); (case aL => have := LMc75.out; omega); intro v174 w79 ho hb hg hat; rw [← Ny173.out] at ho; have n0_ := Aside0.mk (blk_grown (g := gb152) (o := .cells #[.string a0_0, .int .i64 a0_1, .int .i64 a0_2, .slice A0_3 l0_3.length c0_3, .slice (some ad153) l0_4.length c0_4] 39 (0, 0)) (by (with_reducible repeat (first | refine blk_drewN ?_ _ | refine blk_drew ?_ | refine blk_alloc ?_ _)); exact BK152.out) hg (Kd.R_ne HO172.out BK152.out (by decide))); have n1_ := Aside0.mk (blk_grown (g := gb154) (o := .cells #[.int .i64 ((rd_T65 l0_4 x5_1).f0), .int .i64 ((rd_T65 l0_4 x5_1).f1), .int .i64 ((rd_T65 l0_4 x5_1).f2), .int .i64 ((rd_T65 l0_4 x5_1).f3)] 65 (0, 0)) (by (with_reducible repeat (first | refine blk_drewN ?_ _ | refine blk_drew ?_ | refine blk_alloc ?_ _)); exact BK154.out) hg (Kd.R_ne HO172.out BK154.out (by decide))); have n2_ := Aside0.mk (hb); have n3_ := Aside0.mk (ho); clear BK152; clear BK154; clear HB; clear HO172; have BK152 := n0_; have BK154 := n1_; have HB := n2_; have HO175 := n3_; clear n0_ n1_ n2_ n3_; clear ho hb hg hat))
                                                  repeat (go_quiet (first | ((with_reducible refine gate_builtin (b := .append) (xs := #[.tmp 137, .tmp 139]) rfl ?_); (try (refine gate_guard (by rfl) ?_; dsimp only)); at_builtin; refine Kd.R_append (Kd.int .i64) (w0 := w) w.heap.size rfl (.tmp 137) (.tmp 139) 63 3 (.int .i64 0) 8 rfl Tryz.underlying63 info3 rfl (by decide) (by omega) (.slice (some ad162) y170.length co15) y170 (wrap64 ((rd x4_1 (ji60)) - (rd x4_1 (ji63)))) [.int .i64 (wrap64 ((rd x4_1 (ji60)) - (rd x4_1 (ji63))))] (fun _ => True) (fun _ => False) rfl rfl ?aP (fun _ hk => hk.elim) ?aF ?aO ?aB ?aS ?aL ?_; (case aP => exact rfl); (case aB => exact (by repeat (first | (with_reducible first | exact HB.out | apply below_alloc | apply pw_below_drewN | apply below_drew1 | refine below_set ?_ GE152.out | refine below_set ?_ GE154.out) | exact HB.out))); (case aF => exact (fun _ _ => trivial)); (case aO => exact (by (with_reducible repeat (first | apply Kd.R_alloc | apply Kd.R_drewN | apply Kd.R_drew)); exact HO172.out)); (case aS => exact (below_size (by repeat (first | (with_reducible first | exact HB.out | apply below_alloc | apply pw_below_drewN | apply below_drew1 | refine below_set ?_ GE152.out | refine below_set ?_ GE154.out) | exact HB.out)))); (case aL => have := LMc75.out; omega); intro v174 w79 ho hb hg hat; rw [← Ny173.out] at ho; have n0_ := Aside0.mk (blk_grown (g := gb152) (o := .cells #[.string a0_0, .int .i64 a0_1, .int .i64 a0_2, .slice A0_3 l0_3.length c0_3, .slice (some ad153) l0_4.length c0_4] 39 (0, 0)) (by (with_reducible repeat (first | refine blk_drewN ?_ _ | refine blk_drew ?_ | refine blk_alloc ?_ _)); exact BK152.out) hg (Kd.R_ne HO172.out BK152.out (by decide))); have n1_ := Aside0.mk (blk_grown (g := gb154) (o := .cells #[.int .i64 ((rd_T65 l0_4 x5_1).f0), .int .i64 ((rd_T65 l0_4 x5_1).f1), .int .i64 ((rd_T65 l0_4 x5_1).f2), .int .i64 ((rd_T65 l0_4 x5_1).f3)] 65 (0, 0)) (by (with_reducible repeat (first | refine blk_drewN ?_ _ | refine blk_drew ?_ | refine blk_alloc ?_ _)); exact BK154.out) hg (Kd.R_ne HO172.out BK154.out (by decide))); have n2_ := Aside0.mk (hb); have n3_ := Aside0.mk (ho); clear BK152; clear BK154; clear HB; clear HO172; have BK152 := n0_; have BK154 := n1_; have HB := n2_; have HO175 := n3_; clear n0_ n1_ n2_ n3_; clear ho hb hg hat)); try go_wp2_with (first | ((with_reducible refine gate_builtin (b := .append) (xs := #[.tmp 137, .tmp 139]) rfl ?_); (try (refine gate_guard (by rfl) ?_; dsimp only)); at_builtin; refine Kd.R_append (Kd.int .i64) (w0 := w) w.heap.size rfl (.tmp 137) (.tmp 139) 63 3 (.int .i64 0) 8 rfl Tryz.underlying63 info3 rfl (by decide) (by omega) (.slice (some ad162) y170.length co15) y170 (wrap64 ((rd x4_1 (ji60)) - (rd x4_1 (ji63)))) [.int .i64 (wrap64 ((rd x4_1 (ji60)) - (rd x4_1 (ji63))))] (fun _ => True) (fun _ => False) rfl rfl ?aP (fun _ hk => hk.elim) ?aF ?aO ?aB ?aS ?aL ?_; (case aP => exact rfl); (case aB => exact (by repeat (first | (with_reducible first | exact HB.out | apply below_alloc | apply pw_below_drewN | apply below_drew1 | refine below_set ?_ GE152.out | refine below_set ?_ GE154.out) | exact HB.out))); (case aF => exact (fun _ _ => trivial)); (case aO => exact (by (with_reducible repeat (first | apply Kd.R_alloc | apply Kd.R_drewN | apply Kd.R_drew)); exact HO172.out)); (case aS => exact (below_size (by repeat (first | (with_reducible first | exact HB.out | apply below_alloc | apply pw_below_drewN | apply below_drew1 | refine below_set ?_ GE152.out | refine below_set ?_ GE154.out) | exact HB.out)))); (case aL => have := LMc75.out; omega); intro v174 w79 ho hb hg hat; rw [← Ny173.out] at ho; have n0_ := Aside0.mk (blk_grown (g := gb152) (o := .cells #[.string a0_0, .int .i64 a0_1, .int .i64 a0_2, .slice A0_3 l0_3.length c0_3, .slice (some ad153) l0_4.length c0_4] 39 (0, 0)) (by (with_reducible repeat (first | refine blk_drewN ?_ _ | refine blk_drew ?_ | refine blk_alloc ?_ _)); exact BK152.out) hg (Kd.R_ne HO172.out BK152.out (by decide))); have n1_ := Aside0.mk (blk_grown (g := gb154) (o := .cells #[.int .i64 ((rd_T65 l0_4 x5_1).f0), .int .i64 ((rd_T65 l0_4 x5_1).f1), .int .i64 ((rd_T65 l0_4 x5_1).f2), .int .i64 ((rd_T65 l0_4 x5_1).f3)] 65 (0, 0)) (by (with_reducible repeat (first | refine blk_drewN ?_ _ | refine blk_drew ?_ | refine blk_alloc ?_ _)); exact BK154.out) hg (Kd.R_ne HO172.out BK154.out (by decide))); have n2_ := Aside0.mk (hb); have n3_ := Aside0.mk (ho); clear BK152; clear BK154; clear HB; clear HO172; have BK152 := n0_; have BK154 := n1_; have HB := n2_; have HO175 := n3_; clear n0_ n1_ n2_ n3_; clear ho hb hg hat)))
                                                  go_roundg kj51
                                                  case measure => have := HK1.out; have := HJ2.out; have := HJ9.out; have := HJ51.out; omega
                                                  case rel => exact ⟨(y173), ((wrap64 (x5_1 + 1))), (wrap64 (x6_1 + 1)), (by first | rfl | (simp; done) | (simp [*]; done)), (by first | rfl | (simp; done) | (simp [*]; done)), H', ⟨by have := HK1.out; have := HJ2.out; have := HJ9.out; have := HJ51.out; omega⟩, ⟨by (with_reducible repeat (first | apply Kd.R_alloc | apply Kd.R_drewN | apply Kd.R_drew)); exact HO175.out⟩, ⟨by (with_reducible repeat (first | refine blk_drewN ?_ _ | refine blk_drew ?_ | refine blk_alloc ?_ _)); exact BK152.out⟩, ⟨by repeat (first | (with_reducible first | exact HB.out | apply below_alloc | apply pw_below_drewN | apply below_drew1 | refine below_set ?_ GE152.out | refine below_set ?_ GE154.out) | exact HB.out)⟩⟩
                                                · rw [if_neg c75] at H
                                                  exact absurd H (by simp)
                                              · rw [if_neg c74] at H
                                                exact absurd H (by simp)
                                          · rw [if_neg c66] at H
                                            have c66b0 : (((rd_T65 l0_4 x5_1).f1) == 2) = false := beq_eq_false_iff_ne.mpr c66
                                            have c66b1 : (((rd_T65 l0_4 x5_1).f1) != 2) = true := bne_iff_ne.mpr c66
                                            by_cases c80 : ((rd_T65 l0_4 x5_1).f1) = 3
                                            · rw [if_pos c80] at H
                                              have c80b0 : (((rd_T65 l0_4 x5_1).f1) == 3) = true := beq_iff_eq.mpr c80
                                              have c80b1 : (((rd_T65 l0_4 x5_1).f1) != 3) = false := bne_eq_false_iff_eq.mpr c80
                                              clear c80
                                              by_cases c81 : (ji60) ≤ (x4_1.length : Int)
                                              · rw [if_pos c81] at H
                                                have c81b0 := eq_true c81
                                                have c81b1 : decide ((ji60) ≤ (x4_1.length : Int)) = true := decide_eq_true c81
                                                clear c81
                                                obtain ⟨y176, hy176⟩ : ∃ y_ : List Int, y_ = (x4_1.take ((ji60) : Int).toNat) := ⟨_, rfl⟩
                                                replace H : (if y176.length < 17592186044416 then (trestletop_run.l0 kj51 (y176 ++ [wrap64 ((rd x4_1 (ji60)) * (rd x4_1 (ji63)))]) (wrap64 (x5_1 + 1)) (wrap64 (x6_1 + 1)) a0_0 a0_1 a0_2 l0_3 l0_4) else (none)) = some (r1, r2) := by first | (rw [hy176]; with_reducible exact H) | (have H2_ := (Option.bind_some _ _).symm.trans H; rw [hy176]; with_reducible exact H2_) | (have H2_ := (Option.bind_some _ _).symm.trans H; with_reducible exact H2_) | with_reducible exact H | (rw [hy176]; exact H) | exact H
                                                have Ny176 := Aside0.mk hy176
                                                clear hy176
                                                by_cases c82 : y176.length < 17592186044416
                                                · rw [if_pos c82] at H
                                                  have LMc82 := Aside0.mk c82
                                                  clear c82
                                                  obtain ⟨y179, hy179⟩ : ∃ y_ : List Int, y_ = (y176 ++ [wrap64 ((rd x4_1 (ji60)) * (rd x4_1 (ji63)))]) := ⟨_, rfl⟩
                                                  replace H : (trestletop_run.l0 kj51 y179 (wrap64 (x5_1 + 1)) (wrap64 (x6_1 + 1)) a0_0 a0_1 a0_2 l0_3 l0_4) = some (r1, r2) := by first | (rw [hy179]; with_reducible exact H) | (have H2_ := (Option.bind_some _ _).symm.trans H; rw [hy179]; with_reducible exact H2_) | (have H2_ := (Option.bind_some _ _).symm.trans H; with_reducible exact H2_) | with_reducible exact H | (rw [hy179]; exact H) | exact H
                                                  have Ny179 := Aside0.mk hy179
                                                  clear hy179
                                                  have H' := Aside0.mk H
                                                  clear H
                                                  have p162 : 0 ≤ ((ji60) : Int) := of_decide_eq_true (by first | (with_reducible assumption) | assumption)
                                                  have q162 : (ji60) < (x4_1.length : Int) := of_decide_eq_true (by first | (with_reducible assumption) | assumption)
                                                  obtain ⟨ad162, e162, hx162_0⟩ := Kd.at_int (Kd.R_reads' HO_4.out).2.2 (ji60) p162 q162
                                                  cases e162
                                                  replace p162 := eq_true p162
                                                  replace q162 := eq_true q162
                                                  have p163 : 0 ≤ ((ji63) : Int) := of_decide_eq_true (by first | (with_reducible assumption) | assumption)
                                                  have q163 : (ji63) < (x4_1.length : Int) := of_decide_eq_true (by first | (with_reducible assumption) | assumption)
                                                  obtain ⟨ad163, e163, hx163_0⟩ := Kd.at_int (Kd.R_reads' HO_4.out).2.2 (ji63) p163 q163
                                                  obtain rfl : ad162 = ad163 := (by injection e163)
                                                  replace p163 := eq_true p163
                                                  replace q163 := eq_true q163
                                                  have hnb83 := NB154_152.out
                                                  have hnc83 := NB152_154.out
                                                  have hcz84_0 : wc.cell? ⟨gb154, 0, none⟩ = some (.int .i64 ((rd_T65 l0_4 x5_1).f0)) := (blk_cell BK154.out 0).trans rfl
                                                  have hcz84_1 : wc.cell? ⟨gb154, 1, none⟩ = some (.int .i64 ((rd_T65 l0_4 x5_1).f1)) := (blk_cell BK154.out 1).trans rfl
                                                  have hcz84_2 : wc.cell? ⟨gb154, 2, none⟩ = some (.int .i64 ((rd_T65 l0_4 x5_1).f2)) := (blk_cell BK154.out 2).trans rfl
                                                  have hcz84_3 : wc.cell? ⟨gb154, 3, none⟩ = some (.int .i64 ((rd_T65 l0_4 x5_1).f3)) := (blk_cell BK154.out 3).trans rfl
                                                  have hfz84_0 := blk_frozen BK154.out 0
                                                  have hfz84_1 := blk_frozen BK154.out 1
                                                  have hfz84_2 := blk_frozen BK154.out 2
                                                  have hfz84_3 := blk_frozen BK154.out 3
                                                  have q85 : ((ji60) : Int) ≤ ((x4_1.length : Int) : Int) := of_decide_eq_true (by first | (with_reducible assumption) | assumption)
                                                  obtain ⟨i085, hi085, _, hsz85, _⟩ := info_parts info3
                                                  have hcut85 := cut_to (P := Tryz.prog) 63 3 .i64 Tryz.underlying63 hi085 (some ad162) x4_1.length co15 (ji60) (of_decide_eq_true (by first | (with_reducible assumption) | assumption)) q85 (Kd.R_reads' HO_4.out).2.1
                                                  have hr85 := Kd.R_take (m := ((ji60) : Int).toNat) HO_4.out (by omega)
                                                  have hy85 : y176.length = ((ji60) : Int).toNat := (by rw [Ny176.out, List.length_take]; omega)
                                                  rw [← Ny176.out] at hr85
                                                  rw [← hy85] at hr85 hcut85
                                                  clear hy85 hi085 hsz85 HO_4
                                                  have HO178 := Aside0.mk hr85
                                                  clear hr85
                                                  replace q85 := eq_true q85
                                                  go_wp2_with (first | ((with_reducible refine gate_builtin (b := .append) (xs := #[.tmp 137, .tmp 139]) rfl ?_); (try (refine gate_guard (by rfl) ?_; dsimp only)); at_builtin; refine Kd.R_append (Kd.int .i64) (w0 := w) w.heap.size rfl (.tmp 137) (.tmp 139) 63 3 (.int .i64 0) 8 rfl Tryz.underlying63 info3 rfl (by decide) (by omega) (.slice (some ad162) y176.length co15) y176 (wrap64 ((rd x4_1 (ji60)) * (rd x4_1 (ji63)))) [.int .i64 (wrap64 ((rd x4_1 (ji60)) * (rd x4_1 (ji63))))] (fun _ => True) (fun _ => False) rfl rfl ?aP (fun _ hk => hk.elim) ?aF ?aO ?aB ?aS ?aL ?_; (case aP => exact rfl); (case aB => exact (by repeat (first | (with_reducible first | exact HB.out | apply below_alloc | apply pw_below_drewN | apply below_drew1 | refine below_set ?_ GE152.out | refine below_set ?_ GE154.out) | exact HB.out))); (case aF => exact (fun _ _ => trivial)); (case aO => exact (by (with_reducible repeat (first | apply Kd.R_alloc | apply Kd.R_drewN | apply Kd.R_drew)); exact HO178.out)); (case aS => exact (below_size (by repeat (first | (with_reducible first | exact HB.out | apply below_alloc | apply pw_below_drewN | apply below_drew1 | refine below_set ?_ GE152.out | refine below_set ?_ GE154.out) | exact HB.out)))); (case aL => have := LMc82.out; omega); intro v180 w86 ho hb hg hat; rw [← Ny179.out] at ho; have n0_ := Aside0.mk (blk_grown (g := gb152) (o := .cells #[.string a0_0, .int .i64 a0_1, .int .i64 a0_2, .slice A0_3 l0_3.length c0_3, .slice (some ad153) l0_4.length c0_4] 39 (0, 0)) (by (with_reducible repeat (first | refine blk_drewN ?_ _ | refine blk_drew ?_ | refine blk_alloc ?_ _)); exact BK152.out) hg (Kd.R_ne HO178.out BK152.out (by decide))); have n1_ := Aside0.mk (blk_grown (g := gb154) (o := .cells #[.int .i64 ((rd_T65 l0_4 x5_1).f0), .int .i64 ((rd_T65 l0_4 x5_1).f1), .int .i64 ((rd_T65 l0_4 x5_1).f2), .int .i64 ((rd_T65 l0_4 x5_1).f3)] 65 (0, 0)) (by (with_reducible repeat (first | refine blk_drewN ?_ _ | refine blk_drew ?_ | refine blk_alloc ?_ _)); exact BK154.out) hg (Kd.R_ne HO178.out BK154.out (by decide))); have n2_ := Aside0.mk (hb); have n3_ := Aside0.mk (ho); clear BK152; clear BK154; clear HB; clear HO178; have BK152 := n0_; have BK154 := n1_; have HB := n2_; have HO181 := n3_; clear n0_ n1_ n2_ n3_; clear ho hb hg hat))
                                                  repeat (go_quiet (first | ((with_reducible refine gate_builtin (b := .append) (xs := #[.tmp 137, .tmp 139]) rfl ?_); (try (refine gate_guard (by rfl) ?_; dsimp only)); at_builtin; refine Kd.R_append (Kd.int .i64) (w0 := w) w.heap.size rfl (.tmp 137) (.tmp 139) 63 3 (.int .i64 0) 8 rfl Tryz.underlying63 info3 rfl (by decide) (by omega) (.slice (some ad162) y176.length co15) y176 (wrap64 ((rd x4_1 (ji60)) * (rd x4_1 (ji63)))) [.int .i64 (wrap64 ((rd x4_1 (ji60)) * (rd x4_1 (ji63))))] (fun _ => True) (fun _ => False) rfl rfl ?aP (fun _ hk => hk.elim) ?aF ?aO ?aB ?aS ?aL ?_; (case aP => exact rfl); (case aB => exact (by repeat (first | (with_reducible first | exact HB.out | apply below_alloc | apply pw_below_drewN | apply below_drew1 | refine below_set ?_ GE152.out | refine below_set ?_ GE154.out) | exact HB.out))); (case aF => exact (fun _ _ => trivial)); (case aO => exact (by (with_reducible repeat (first | apply Kd.R_alloc | apply Kd.R_drewN | apply Kd.R_drew)); exact HO178.out)); (case aS => exact (below_size (by repeat (first | (with_reducible first | exact HB.out | apply below_alloc | apply pw_below_drewN | apply below_drew1 | refine below_set ?_ GE152.out | refine below_set ?_ GE154.out) | exact HB.out)))); (case aL => have := LMc82.out; omega); intro v180 w86 ho hb hg hat; rw [← Ny179.out] at ho; have n0_ := Aside0.mk (blk_grown (g := gb152) (o := .cells #[.string a0_0, .int .i64 a0_1, .int .i64 a0_2, .slice A0_3 l0_3.length c0_3, .slice (some ad153) l0_4.length c0_4] 39 (0, 0)) (by (with_reducible repeat (first | refine blk_drewN ?_ _ | refine blk_drew ?_ | refine blk_alloc ?_ _)); exact BK152.out) hg (Kd.R_ne HO178.out BK152.out (by decide))); have n1_ := Aside0.mk (blk_grown (g := gb154) (o := .cells #[.int .i64 ((rd_T65 l0_4 x5_1).f0), .int .i64 ((rd_T65 l0_4 x5_1).f1), .int .i64 ((rd_T65 l0_4 x5_1).f2), .int .i64 ((rd_T65 l0_4 x5_1).f3)] 65 (0, 0)) (by (with_reducible repeat (first | refine blk_drewN ?_ _ | refine blk_drew ?_ | refine blk_alloc ?_ _)); exact BK154.out) hg (Kd.R_ne HO178.out BK154.out (by decide))); have n2_ := Aside0.mk (hb); have n3_ := Aside0.mk (ho); clear BK152; clear BK154; clear HB; clear HO178; have BK152 := n0_; have BK154 := n1_; have HB := n2_; have HO181 := n3_; clear n0_ n1_ n2_ n3_; clear ho hb hg hat)); try go_wp2_with (first | ((with_reducible refine gate_builtin (b := .append) (xs := #[.tmp 137, .tmp 139]) rfl ?_); (try (refine gate_guard (by rfl) ?_; dsimp only)); at_builtin; refine Kd.R_append (Kd.int .i64) (w0 := w) w.heap.size rfl (.tmp 137) (.tmp 139) 63 3 (.int .i64 0) 8 rfl Tryz.underlying63 info3 rfl (by decide) (by omega) (.slice (some ad162) y176.length co15) y176 (wrap64 ((rd x4_1 (ji60)) * (rd x4_1 (ji63)))) [.int .i64 (wrap64 ((rd x4_1 (ji60)) * (rd x4_1 (ji63))))] (fun _ => True) (fun _ => False) rfl rfl ?aP (fun _ hk => hk.elim) ?aF ?aO ?aB ?aS ?aL ?_; (case aP => exact rfl); (case aB => exact (by repeat (first | (with_reducible first | exact HB.out | apply below_alloc | apply pw_below_drewN | apply below_drew1 | refine below_set ?_ GE152.out | refine below_set ?_ GE154.out) | exact HB.out))); (case aF => exact (fun _ _ => trivial)); (case aO => exact (by (with_reducible repeat (first | apply Kd.R_alloc | apply Kd.R_drewN | apply Kd.R_drew)); exact HO178.out)); (case aS => exact (below_size (by repeat (first | (with_reducible first | exact HB.out | apply below_alloc | apply pw_below_drewN | apply below_drew1 | refine below_set ?_ GE152.out | refine below_set ?_ GE154.out) | exact HB.out)))); (case aL => have := LMc82.out; omega); intro v180 w86 ho hb hg hat; rw [← Ny179.out] at ho; have n0_ := Aside0.mk (blk_grown (g := gb152) (o := .cells #[.string a0_0, .int .i64 a0_1, .int .i64 a0_2, .slice A0_3 l0_3.length c0_3, .slice (some ad153) l0_4.length c0_4] 39 (0, 0)) (by (with_reducible repeat (first | refine blk_drewN ?_ _ | refine blk_drew ?_ | refine blk_alloc ?_ _)); exact BK152.out) hg (Kd.R_ne HO178.out BK152.out (by decide))); have n1_ := Aside0.mk (blk_grown (g := gb154) (o := .cells #[.int .i64 ((rd_T65 l0_4 x5_1).f0), .int .i64 ((rd_T65 l0_4 x5_1).f1), .int .i64 ((rd_T65 l0_4 x5_1).f2), .int .i64 ((rd_T65 l0_4 x5_1).f3)] 65 (0, 0)) (by (with_reducible repeat (first | refine blk_drewN ?_ _ | refine blk_drew ?_ | refine blk_alloc ?_ _)); exact BK154.out) hg (Kd.R_ne HO178.out BK154.out (by decide))); have n2_ := Aside0.mk (hb); have n3_ := Aside0.mk (ho); clear BK152; clear BK154; clear HB; clear HO178; have BK152 := n0_; have BK154 := n1_; have HB := n2_; have HO181 := n3_; clear n0_ n1_ n2_ n3_; clear ho hb hg hat)))
                                                  go_roundg kj51
                                                  case measure => have := HK1.out; have := HJ2.out; have := HJ9.out; have := HJ51.out; omega
                                                  case rel => exact ⟨(y179), ((wrap64 (x5_1 + 1))), (wrap64 (x6_1 + 1)), (by first | rfl | (simp; done) | (simp [*]; done)), (by first | rfl | (simp; done) | (simp [*]; done)), H', ⟨by have := HK1.out; have := HJ2.out; have := HJ9.out; have := HJ51.out; omega⟩, ⟨by (with_reducible repeat (first | apply Kd.R_alloc | apply Kd.R_drewN | apply Kd.R_drew)); exact HO181.out⟩, ⟨by (with_reducible repeat (first | refine blk_drewN ?_ _ | refine blk_drew ?_ | refine blk_alloc ?_ _)); exact BK152.out⟩, ⟨by repeat (first | (with_reducible first | exact HB.out | apply below_alloc | apply pw_below_drewN | apply below_drew1 | refine below_set ?_ GE152.out | refine below_set ?_ GE154.out) | exact HB.out)⟩⟩
                                                · rw [if_neg c82] at H
                                                  exact absurd H (by simp)
                                              · rw [if_neg c81] at H
                                                exact absurd H (by simp)
                                            · rw [if_neg c80] at H
                                              have c80b0 : (((rd_T65 l0_4 x5_1).f1) == 3) = false := beq_eq_false_iff_ne.mpr c80
                                              have c80b1 : (((rd_T65 l0_4 x5_1).f1) != 3) = true := bne_iff_ne.mpr c80
                                              by_cases c87 : (ji60) ≤ (x4_1.length : Int)
                                              · rw [if_pos c87] at H
                                                have c87b0 := eq_true c87
                                                have c87b1 : decide ((ji60) ≤ (x4_1.length : Int)) = true := decide_eq_true c87
                                                clear c87
                                                obtain ⟨y182, hy182⟩ : ∃ y_ : List Int, y_ = (x4_1.take ((ji60) : Int).toNat) := ⟨_, rfl⟩
                                                replace H : (if y182.length < 17592186044416 then (trestletop_run.l0 kj51 (y182 ++ [wrap64 ((rd x4_1 (ji60)) + (rd x4_1 (ji63)))]) (wrap64 (x5_1 + 1)) (wrap64 (x6_1 + 1)) a0_0 a0_1 a0_2 l0_3 l0_4) else (none)) = some (r1, r2) := by first | (rw [hy182]; with_reducible exact H) | (have H2_ := (Option.bind_some _ _).symm.trans H; rw [hy182]; with_reducible exact H2_) | (have H2_ := (Option.bind_some _ _).symm.trans H; with_reducible exact H2_) | with_reducible exact H | (rw [hy182]; exact H) | exact H
                                                have Ny182 := Aside0.mk hy182
                                                clear hy182
                                                by_cases c88 : y182.length < 17592186044416
                                                · rw [if_pos c88] at H
                                                  have LMc88 := Aside0.mk c88
                                                  clear c88
                                                  obtain ⟨y185, hy185⟩ : ∃ y_ : List Int, y_ = (y182 ++ [wrap64 ((rd x4_1 (ji60)) + (rd x4_1 (ji63)))]) := ⟨_, rfl⟩
                                                  replace H : (trestletop_run.l0 kj51 y185 (wrap64 (x5_1 + 1)) (wrap64 (x6_1 + 1)) a0_0 a0_1 a0_2 l0_3 l0_4) = some (r1, r2) := by first | (rw [hy185]; with_reducible exact H) | (have H2_ := (Option.bind_some _ _).symm.trans H; rw [hy185]; with_reducible exact H2_) | (have H2_ := (Option.bind_some _ _).symm.trans H; with_reducible exact H2_) | with_reducible exact H | (rw [hy185]; exact H) | exact H
                                                  have Ny185 := Aside0.mk hy185
                                                  clear hy185
                                                  have H' := Aside0.mk H
                                                  clear H
                                                  have p162 : 0 ≤ ((ji60) : Int) := of_decide_eq_true (by first | (with_reducible assumption) | assumption)
                                                  have q162 : (ji60) < (x4_1.length : Int) := of_decide_eq_true (by first | (with_reducible assumption) | assumption)
                                                  obtain ⟨ad162, e162, hx162_0⟩ := Kd.at_int (Kd.R_reads' HO_4.out).2.2 (ji60) p162 q162
                                                  cases e162
                                                  replace p162 := eq_true p162
                                                  replace q162 := eq_true q162
                                                  have p163 : 0 ≤ ((ji63) : Int) := of_decide_eq_true (by first | (with_reducible assumption) | assumption)
                                                  have q163 : (ji63) < (x4_1.length : Int) := of_decide_eq_true (by first | (with_reducible assumption) | assumption)
                                                  obtain ⟨ad163, e163, hx163_0⟩ := Kd.at_int (Kd.R_reads' HO_4.out).2.2 (ji63) p163 q163
                                                  obtain rfl : ad162 = ad163 := (by injection e163)
                                                  replace p163 := eq_true p163
                                                  replace q163 := eq_true q163
                                                  have hnb89 := NB154_152.out
                                                  have hnc89 := NB152_154.out
                                                  have hcz90_0 : wc.cell? ⟨gb154, 0, none⟩ = some (.int .i64 ((rd_T65 l0_4 x5_1).f0)) := (blk_cell BK154.out 0).trans rfl
                                                  have hcz90_1 : wc.cell? ⟨gb154, 1, none⟩ = some (.int .i64 ((rd_T65 l0_4 x5_1).f1)) := (blk_cell BK154.out 1).trans rfl
                                                  have hcz90_2 : wc.cell? ⟨gb154, 2, none⟩ = some (.int .i64 ((rd_T65 l0_4 x5_1).f2)) := (blk_cell BK154.out 2).trans rfl
                                                  have hcz90_3 : wc.cell? ⟨gb154, 3, none⟩ = some (.int .i64 ((rd_T65 l0_4 x5_1).f3)) := (blk_cell BK154.out 3).trans rfl
                                                  have hfz90_0 := blk_frozen BK154.out 0
                                                  have hfz90_1 := blk_frozen BK154.out 1
                                                  have hfz90_2 := blk_frozen BK154.out 2
                                                  have hfz90_3 := blk_frozen BK154.out 3
                                                  have q91 : ((ji60) : Int) ≤ ((x4_1.length : Int) : Int) := of_decide_eq_true (by first | (with_reducible assumption) | assumption)
                                                  obtain ⟨i091, hi091, _, hsz91, _⟩ := info_parts info3
                                                  have hcut91 := cut_to (P := Tryz.prog) 63 3 .i64 Tryz.underlying63 hi091 (some ad162) x4_1.length co15 (ji60) (of_decide_eq_true (by first | (with_reducible assumption) | assumption)) q91 (Kd.R_reads' HO_4.out).2.1
                                                  have hr91 := Kd.R_take (m := ((ji60) : Int).toNat) HO_4.out (by omega)
                                                  have hy91 : y182.length = ((ji60) : Int).toNat := (by rw [Ny182.out, List.length_take]; omega)
                                                  rw [← Ny182.out] at hr91
                                                  rw [← hy91] at hr91 hcut91
                                                  clear hy91 hi091 hsz91 HO_4
                                                  have HO184 := Aside0.mk hr91
                                                  clear hr91
                                                  replace q91 := eq_true q91
                                                  go_wp2_with (first | ((with_reducible refine gate_builtin (b := .append) (xs := #[.tmp 137, .tmp 139]) rfl ?_); (try (refine gate_guard (by rfl) ?_; dsimp only)); at_builtin; refine Kd.R_append (Kd.int .i64) (w0 := w) w.heap.size rfl (.tmp 137) (.tmp 139) 63 3 (.int .i64 0) 8 rfl Tryz.underlying63 info3 rfl (by decide) (by omega) (.slice (some ad162) y182.length co15) y182 (wrap64 ((rd x4_1 (ji60)) + (rd x4_1 (ji63)))) [.int .i64 (wrap64 ((rd x4_1 (ji60)) + (rd x4_1 (ji63))))] (fun _ => True) (fun _ => False) rfl rfl ?aP (fun _ hk => hk.elim) ?aF ?aO ?aB ?aS ?aL ?_; (case aP => exact rfl); (case aB => exact (by repeat (first | (with_reducible first | exact HB.out | apply below_alloc | apply pw_below_drewN | apply below_drew1 | refine below_set ?_ GE152.out | refine below_set ?_ GE154.out) | exact HB.out))); (case aF => exact (fun _ _ => trivial)); (case aO => exact (by (with_reducible repeat (first | apply Kd.R_alloc | apply Kd.R_drewN | apply Kd.R_drew)); exact HO184.out)); (case aS => exact (below_size (by repeat (first | (with_reducible first | exact HB.out | apply below_alloc | apply pw_below_drewN | apply below_drew1 | refine below_set ?_ GE152.out | refine below_set ?_ GE154.out) | exact HB.out)))); (case aL => have := LMc88.out; omega); intro v186 w92 ho hb hg hat; rw [← Ny185.out] at ho; have n0_ := Aside0.mk (blk_grown (g := gb152) (o := .cells #[.string a0_0, .int .i64 a0_1, .int .i64 a0_2, .slice A0_3 l0_3.length c0_3, .slice (some ad153) l0_4.length c0_4] 39 (0, 0)) (by (with_reducible repeat (first | refine blk_drewN ?_ _ | refine blk_drew ?_ | refine blk_alloc ?_ _)); exact BK152.out) hg (Kd.R_ne HO184.out BK152.out (by decide))); have n1_ := Aside0.mk (blk_grown (g := gb154) (o := .cells #[.int .i64 ((rd_T65 l0_4 x5_1).f0), .int .i64 ((rd_T65 l0_4 x5_1).f1), .int .i64 ((rd_T65 l0_4 x5_1).f2), .int .i64 ((rd_T65 l0_4 x5_1).f3)] 65 (0, 0)) (by (with_reducible repeat (first | refine blk_drewN ?_ _ | refine blk_drew ?_ | refine blk_alloc ?_ _)); exact BK154.out) hg (Kd.R_ne HO184.out BK154.out (by decide))); have n2_ := Aside0.mk (hb); have n3_ := Aside0.mk (ho); clear BK152; clear BK154; clear HB; clear HO184; have BK152 := n0_; have BK154 := n1_; have HB := n2_; have HO187 := n3_; clear n0_ n1_ n2_ n3_; clear ho hb hg hat))
                                                  repeat (go_quiet (first | ((with_reducible refine gate_builtin (b := .append) (xs := #[.tmp 137, .tmp 139]) rfl ?_); (try (refine gate_guard (by rfl) ?_; dsimp only)); at_builtin; refine Kd.R_append (Kd.int .i64) (w0 := w) w.heap.size rfl (.tmp 137) (.tmp 139) 63 3 (.int .i64 0) 8 rfl Tryz.underlying63 info3 rfl (by decide) (by omega) (.slice (some ad162) y182.length co15) y182 (wrap64 ((rd x4_1 (ji60)) + (rd x4_1 (ji63)))) [.int .i64 (wrap64 ((rd x4_1 (ji60)) + (rd x4_1 (ji63))))] (fun _ => True) (fun _ => False) rfl rfl ?aP (fun _ hk => hk.elim) ?aF ?aO ?aB ?aS ?aL ?_; (case aP => exact rfl); (case aB => exact (by repeat (first | (with_reducible first | exact HB.out | apply below_alloc | apply pw_below_drewN | apply below_drew1 | refine below_set ?_ GE152.out | refine below_set ?_ GE154.out) | exact HB.out))); (case aF => exact (fun _ _ => trivial)); (case aO => exact (by (with_reducible repeat (first | apply Kd.R_alloc | apply Kd.R_drewN | apply Kd.R_drew)); exact HO184.out)); (case aS => exact (below_size (by repeat (first | (with_reducible first | exact HB.out | apply below_alloc | apply pw_below_drewN | apply below_drew1 | refine below_set ?_ GE152.out | refine below_set ?_ GE154.out) | exact HB.out)))); (case aL => have := LMc88.out; omega); intro v186 w92 ho hb hg hat; rw [← Ny185.out] at ho; have n0_ := Aside0.mk (blk_grown (g := gb152) (o := .cells #[.string a0_0, .int .i64 a0_1, .int .i64 a0_2, .slice A0_3 l0_3.length c0_3, .slice (some ad153) l0_4.length c0_4] 39 (0, 0)) (by (with_reducible repeat (first | refine blk_drewN ?_ _ | refine blk_drew ?_ | refine blk_alloc ?_ _)); exact BK152.out) hg (Kd.R_ne HO184.out BK152.out (by decide))); have n1_ := Aside0.mk (blk_grown (g := gb154) (o := .cells #[.int .i64 ((rd_T65 l0_4 x5_1).f0), .int .i64 ((rd_T65 l0_4 x5_1).f1), .int .i64 ((rd_T65 l0_4 x5_1).f2), .int .i64 ((rd_T65 l0_4 x5_1).f3)] 65 (0, 0)) (by (with_reducible repeat (first | refine blk_drewN ?_ _ | refine blk_drew ?_ | refine blk_alloc ?_ _)); exact BK154.out) hg (Kd.R_ne HO184.out BK154.out (by decide))); have n2_ := Aside0.mk (hb); have n3_ := Aside0.mk (ho); clear BK152; clear BK154; clear HB; clear HO184; have BK152 := n0_; have BK154 := n1_; have HB := n2_; have HO187 := n3_; clear n0_ n1_ n2_ n3_; clear ho hb hg hat)); try go_wp2_with (first | ((with_reducible refine gate_builtin (b := .append) (xs := #[.tmp 137, .tmp 139]) rfl ?_); (try (refine gate_guard (by rfl) ?_; dsimp only)); at_builtin; refine Kd.R_append (Kd.int .i64) (w0 := w) w.heap.size rfl (.tmp 137) (.tmp 139) 63 3 (.int .i64 0) 8 rfl Tryz.underlying63 info3 rfl (by decide) (by omega) (.slice (some ad162) y182.length co15) y182 (wrap64 ((rd x4_1 (ji60)) + (rd x4_1 (ji63)))) [.int .i64 (wrap64 ((rd x4_1 (ji60)) + (rd x4_1 (ji63))))] (fun _ => True) (fun _ => False) rfl rfl ?aP (fun _ hk => hk.elim) ?aF ?aO ?aB ?aS ?aL ?_; (case aP => exact rfl); (case aB => exact (by repeat (first | (with_reducible first | exact HB.out | apply below_alloc | apply pw_below_drewN | apply below_drew1 | refine below_set ?_ GE152.out | refine below_set ?_ GE154.out) | exact HB.out))); (case aF => exact (fun _ _ => trivial)); (case aO => exact (by (with_reducible repeat (first | apply Kd.R_alloc | apply Kd.R_drewN | apply Kd.R_drew)); exact HO184.out)); (case aS => exact (below_size (by repeat (first | (with_reducible first | exact HB.out | apply below_alloc | apply pw_below_drewN | apply below_drew1 | refine below_set ?_ GE152.out | refine below_set ?_ GE154.out) | exact HB.out)))); (case aL => have := LMc88.out; omega); intro v186 w92 ho hb hg hat; rw [← Ny185.out] at ho; have n0_ := Aside0.mk (blk_grown (g := gb152) (o := .cells #[.string a0_0, .int .i64 a0_1, .int .i64 a0_2, .slice A0_3 l0_3.length c0_3, .slice (some ad153) l0_4.length c0_4] 39 (0, 0)) (by (with_reducible repeat (first | refine blk_drewN ?_ _ | refine blk_drew ?_ | refine blk_alloc ?_ _)); exact BK152.out) hg (Kd.R_ne HO184.out BK152.out (by decide))); have n1_ := Aside0.mk (blk_grown (g := gb154) (o := .cells #[.int .i64 ((rd_T65 l0_4 x5_1).f0), .int .i64 ((rd_T65 l0_4 x5_1).f1), .int .i64 ((rd_T65 l0_4 x5_1).f2), .int .i64 ((rd_T65 l0_4 x5_1).f3)] 65 (0, 0)) (by (with_reducible repeat (first | refine blk_drewN ?_ _ | refine blk_drew ?_ | refine blk_alloc ?_ _)); exact BK154.out) hg (Kd.R_ne HO184.out BK154.out (by decide))); have n2_ := Aside0.mk (hb); have n3_ := Aside0.mk (ho); clear BK152; clear BK154; clear HB; clear HO184; have BK152 := n0_; have BK154 := n1_; have HB := n2_; have HO187 := n3_; clear n0_ n1_ n2_ n3_; clear ho hb hg hat)))
                                                  go_roundg kj51
                                                  case measure => have := HK1.out; have := HJ2.out; have := HJ9.out; have := HJ51.out; omega
                                                  case rel => exact ⟨(y185), ((wrap64 (x5_1 + 1))), (wrap64 (x6_1 + 1)), (by first | rfl | (simp; done) | (simp [*]; done)), (by first | rfl | (simp; done) | (simp [*]; done)), H', ⟨by have := HK1.out; have := HJ2.out; have := HJ9.out; have := HJ51.out; omega⟩, ⟨by (with_reducible repeat (first | apply Kd.R_alloc | apply Kd.R_drewN | apply Kd.R_drew)); exact HO187.out⟩, ⟨by (with_reducible repeat (first | refine blk_drewN ?_ _ | refine blk_drew ?_ | refine blk_alloc ?_ _)); exact BK152.out⟩, ⟨by repeat (first | (with_reducible first | exact HB.out | apply below_alloc | apply pw_below_drewN | apply below_drew1 | refine below_set ?_ GE152.out | refine below_set ?_ GE154.out) | exact HB.out)⟩⟩
                                                · rw [if_neg c88] at H
                                                  exact absurd H (by simp)
                                              · rw [if_neg c87] at H
                                                exact absurd H (by simp)
                                        · rw [if_neg c65] at H
                                          exact absurd H (by simp)
                                      · rw [if_neg c64] at H
                                        exact absurd H (by simp)
                                    · rw [if_neg c62] at H
                                      exact absurd H (by simp)
                                  · rw [if_neg c61] at H
                                    exact absurd H (by simp)
                          · rw [if_neg c51] at H
                            have c51b0 : (((rd_T65 l0_4 x5_1).f0) == 17) = false := beq_eq_false_iff_ne.mpr c51
                            have c51b1 : (((rd_T65 l0_4 x5_1).f0) != 17) = true := bne_iff_ne.mpr c51
                            by_cases c93 : ((rd_T65 l0_4 x5_1).f0) = 20
                            · rw [if_pos c93] at H
                              have c93b0 : (((rd_T65 l0_4 x5_1).f0) == 20) = true := beq_iff_eq.mpr c93
                              have c93b1 : (((rd_T65 l0_4 x5_1).f0) != 20) = false := bne_eq_false_iff_eq.mpr c93
                              clear c93
                              by_cases c94 : (x4_1.length : Int) < 1
                              · rw [if_pos c94] at H
                                have c94b0 : decide ((x4_1.length : Int) < 1) = true := decide_eq_true c94
                                have c94b1 : decide (x4_1.length < 1) = true := decide_eq_true (by omega)
                                clear c94
                                simp only [Option.some.injEq, Prod.mk.injEq] at H
                                obtain ⟨rfl, rfl⟩ := H
                                go_wp2
                                repeat (go_quiet (fail); try go_wp2)
                                go_ret2
                                exact ⟨by first | rfl | (simp [errW_none, errW_some] <;> rfl) | (simp [*, errW_none, errW_some] <;> rfl), by repeat (first | (with_reducible first | exact HB.out | apply below_alloc | apply pw_below_drewN | apply below_drew1 | refine below_set ?_ GE152.out | refine below_set ?_ GE154.out) | exact HB.out)⟩
                              · rw [if_neg c94] at H
                                have c94b0 : decide ((x4_1.length : Int) < 1) = false := decide_eq_false c94
                                have c94b1 : decide (x4_1.length < 1) = false := decide_eq_false (by omega)
                                clear c94
                                obtain ⟨ji95, hji95⟩ : ∃ j_ : Int, (wrap64 ((x4_1.length : Int) - 1)) = j_ := ⟨_, rfl⟩
                                replace H : (if 0 ≤ (ji95) then (if (ji95) ≤ (x4_1.length : Int) then (trestletop_run.l0 kj9 (x4_1.take ((ji95) : Int).toNat) (wrap64 (x5_1 + 1)) (wrap64 (x6_1 + 1)) a0_0 a0_1 a0_2 l0_3 l0_4) else (none)) else (none)) = some (r1, r2) := by first | (rw [hji95] at H; exact H) | (simp only [hji95] at H ⊢; exact H)
                                have hji95w : (IntKind.i64.wrap ((x4_1.length : Int) - 1)) = ji95 := (i64_w _).trans hji95
                                by_cases c96 : 0 ≤ (ji95)
                                · rw [if_pos c96] at H
                                  have c96b0 := eq_true c96
                                  have c96b1 : decide (0 ≤ (ji95)) = true := decide_eq_true c96
                                  clear c96
                                  by_cases c97 : (ji95) ≤ (x4_1.length : Int)
                                  · rw [if_pos c97] at H
                                    have c97b0 := eq_true c97
                                    have c97b1 : decide ((ji95) ≤ (x4_1.length : Int)) = true := decide_eq_true c97
                                    clear c97
                                    obtain ⟨y188, hy188⟩ : ∃ y_ : List Int, y_ = (x4_1.take ((ji95) : Int).toNat) := ⟨_, rfl⟩
                                    replace H : (trestletop_run.l0 kj9 y188 (wrap64 (x5_1 + 1)) (wrap64 (x6_1 + 1)) a0_0 a0_1 a0_2 l0_3 l0_4) = some (r1, r2) := by first | (rw [hy188]; with_reducible exact H) | (have H2_ := (Option.bind_some _ _).symm.trans H; rw [hy188]; with_reducible exact H2_) | (have H2_ := (Option.bind_some _ _).symm.trans H; with_reducible exact H2_) | with_reducible exact H | (rw [hy188]; exact H) | exact H
                                    have Ny188 := Aside0.mk hy188
                                    clear hy188
                                    have H' := Aside0.mk H
                                    clear H
                                    have q98 : ((ji95) : Int) ≤ ((x4_1.length : Int) : Int) := of_decide_eq_true (by first | (with_reducible assumption) | assumption)
                                    obtain ⟨i098, hi098, _, hsz98, _⟩ := info_parts info3
                                    have hcut98 := cut_to (P := Tryz.prog) 63 3 .i64 Tryz.underlying63 hi098 Ao15 x4_1.length co15 (ji95) (of_decide_eq_true (by first | (with_reducible assumption) | assumption)) q98 (Kd.R_reads' HO_4.out).2.1
                                    have hr98 := Kd.R_take (m := ((ji95) : Int).toNat) HO_4.out (by omega)
                                    have hy98 : y188.length = ((ji95) : Int).toNat := (by rw [Ny188.out, List.length_take]; omega)
                                    rw [← Ny188.out] at hr98
                                    rw [← hy98] at hr98 hcut98
                                    clear hy98 hi098 hsz98 HO_4
                                    have HO190 := Aside0.mk hr98
                                    clear hr98
                                    replace q98 := eq_true q98
                                    go_wp2
                                    repeat (go_quiet (fail); try go_wp2)
                                    go_roundg kj9
                                    case measure => have := HK1.out; have := HJ2.out; have := HJ9.out; omega
                                    case rel => exact ⟨(y188), ((wrap64 (x5_1 + 1))), (wrap64 (x6_1 + 1)), (by first | rfl | (simp; done) | (simp [*]; done)), (by first | rfl | (simp; done) | (simp [*]; done)), H', ⟨by have := HK1.out; have := HJ2.out; have := HJ9.out; omega⟩, ⟨by (with_reducible repeat (first | apply Kd.R_alloc | apply Kd.R_drewN | apply Kd.R_drew)); exact HO190.out⟩, ⟨by (with_reducible repeat (first | refine blk_drewN ?_ _ | refine blk_drew ?_ | refine blk_alloc ?_ _)); exact BK152.out⟩, ⟨by repeat (first | (with_reducible first | exact HB.out | apply below_alloc | apply pw_below_drewN | apply below_drew1 | refine below_set ?_ GE152.out | refine below_set ?_ GE154.out) | exact HB.out)⟩⟩
                                  · rw [if_neg c97] at H
                                    exact absurd H (by simp)
                                · rw [if_neg c96] at H
                                  exact absurd H (by simp)
                            · rw [if_neg c93] at H
                              have c93b0 : (((rd_T65 l0_4 x5_1).f0) == 20) = false := beq_eq_false_iff_ne.mpr c93
                              have c93b1 : (((rd_T65 l0_4 x5_1).f0) != 20) = true := bne_iff_ne.mpr c93
                              by_cases c99 : ((rd_T65 l0_4 x5_1).f0) = 21
                              · rw [if_pos c99] at H
                                have c99b0 : (((rd_T65 l0_4 x5_1).f0) == 21) = true := beq_iff_eq.mpr c99
                                have c99b1 : (((rd_T65 l0_4 x5_1).f0) != 21) = false := bne_eq_false_iff_eq.mpr c99
                                clear c99
                                have H' := Aside0.mk H
                                clear H
                                have hnb100 := NB154_152.out
                                have hnc100 := NB152_154.out
                                have hcz101_0 : wc.cell? ⟨gb154, 0, none⟩ = some (.int .i64 ((rd_T65 l0_4 x5_1).f0)) := (blk_cell BK154.out 0).trans rfl
                                have hcz101_1 : wc.cell? ⟨gb154, 1, none⟩ = some (.int .i64 ((rd_T65 l0_4 x5_1).f1)) := (blk_cell BK154.out 1).trans rfl
                                have hcz101_2 : wc.cell? ⟨gb154, 2, none⟩ = some (.int .i64 ((rd_T65 l0_4 x5_1).f2)) := (blk_cell BK154.out 2).trans rfl
                                have hcz101_3 : wc.cell? ⟨gb154, 3, none⟩ = some (.int .i64 ((rd_T65 l0_4 x5_1).f3)) := (blk_cell BK154.out 3).trans rfl
                                have hfz101_0 := blk_frozen BK154.out 0
                                have hfz101_1 := blk_frozen BK154.out 1
                                have hfz101_2 := blk_frozen BK154.out 2
                                have hfz101_3 := blk_frozen BK154.out 3
                                go_wp2
                                repeat (go_quiet (fail); try go_wp2)
                                go_roundg kj9
                                case measure => have := HK1.out; have := HJ2.out; have := HJ9.out; omega
                                case rel => exact ⟨(x4_1), (((rd_T65 l0_4 x5_1).f1)), (wrap64 (x6_1 + 1)), (by first | rfl | (simp; done) | (simp [*]; done)), (by first | rfl | (simp; done) | (simp [*]; done)), H', ⟨by have := HK1.out; have := HJ2.out; have := HJ9.out; omega⟩, ⟨by (with_reducible repeat (first | apply Kd.R_alloc | apply Kd.R_drewN | apply Kd.R_drew)); exact HO_4.out⟩, ⟨by (with_reducible repeat (first | refine blk_drewN ?_ _ | refine blk_drew ?_ | refine blk_alloc ?_ _)); exact BK152.out⟩, ⟨by repeat (first | (with_reducible first | exact HB.out | apply below_alloc | apply pw_below_drewN | apply below_drew1 | refine below_set ?_ GE152.out | refine below_set ?_ GE154.out) | exact HB.out)⟩⟩
                              · rw [if_neg c99] at H
                                have c99b0 : (((rd_T65 l0_4 x5_1).f0) == 21) = false := beq_eq_false_iff_ne.mpr c99
                                have c99b1 : (((rd_T65 l0_4 x5_1).f0) != 21) = true := bne_iff_ne.mpr c99
                                by_cases c102 : ((rd_T65 l0_4 x5_1).f0) = 25
                                · rw [if_pos c102] at H
                                  have c102b0 : (((rd_T65 l0_4 x5_1).f0) == 25) = true := beq_iff_eq.mpr c102
                                  have c102b1 : (((rd_T65 l0_4 x5_1).f0) != 25) = false := bne_eq_false_iff_eq.mpr c102
                                  clear c102
                                  by_cases c103 : (x4_1.length : Int) = 1
                                  · rw [if_pos c103] at H
                                    have c103b0 : ((x4_1.length : Int) == 1) = true := beq_iff_eq.mpr c103
                                    have c103b1 : ((x4_1.length : Int) != 1) = false := bne_eq_false_iff_eq.mpr c103
                                    clear c103
                                    by_cases c104 : 0 < (x4_1.length : Int)
                                    · rw [if_pos c104] at H
                                      have c104b0 : decide (0 < (x4_1.length : Int)) = true := decide_eq_true c104
                                      have c104b1 : decide (0 < x4_1.length) = true := decide_eq_true (by omega)
                                      clear c104
                                      simp only [Option.some.injEq, Prod.mk.injEq] at H
                                      obtain ⟨rfl, rfl⟩ := H
                                      have p191 : 0 ≤ (0 : Int) := (by omega)
                                      have q191 : 0 < (x4_1.length : Int) := of_decide_eq_true (by first | (with_reducible assumption) | assumption)
                                      obtain ⟨ad191, e191, hx191_0⟩ := Kd.at_int (Kd.R_reads' HO_4.out).2.2 0 p191 q191
                                      cases e191
                                      have qi191 : (0 < x4_1.length) = True := eq_true (by omega)
                                      (try rw [show ((0 : Int)).toNat = 0 from rfl] at hx191_0)
                                      (try rw [Addr.add_zero'] at hx191_0)
                                      replace p191 := eq_true p191
                                      replace q191 := eq_true q191
                                      go_wp2
                                      repeat (go_quiet (fail); try go_wp2)
                                      go_ret2
                                      exact ⟨by first | rfl | (simp [errW_none, errW_some] <;> rfl) | (simp [*, errW_none, errW_some] <;> rfl), by repeat (first | (with_reducible first | exact HB.out | apply below_alloc | apply pw_below_drewN | apply below_drew1 | refine below_set ?_ GE152.out | refine below_set ?_ GE154.out) | exact HB.out)⟩
                                    · rw [if_neg c104] at H
                                      exact absurd H (by simp)
                                  · rw [if_neg c103] at H
                                    have c103b0 : ((x4_1.length : Int) == 1) = false := beq_eq_false_iff_ne.mpr c103
                                    have c103b1 : ((x4_1.length : Int) != 1) = true := bne_iff_ne.mpr c103
                                    simp only [Option.some.injEq, Prod.mk.injEq] at H
                                    obtain ⟨rfl, rfl⟩ := H
                                    go_wp2
                                    repeat (go_quiet (fail); try go_wp2)
                                    go_ret2
                                    exact ⟨by first | rfl | (simp [errW_none, errW_some] <;> rfl) | (simp [*, errW_none, errW_some] <;> rfl), by repeat (first | (with_reducible first | exact HB.out | apply below_alloc | apply pw_below_drewN | apply below_drew1 | refine below_set ?_ GE152.out | refine below_set ?_ GE154.out) | exact HB.out)⟩
                                · rw [if_neg c102] at H
                                  have c102b0 : (((rd_T65 l0_4 x5_1).f0) == 25) = false := beq_eq_false_iff_ne.mpr c102
                                  have c102b1 : (((rd_T65 l0_4 x5_1).f0) != 25) = true := bne_iff_ne.mpr c102
                                  simp only [Option.some.injEq, Prod.mk.injEq] at H
                                  obtain ⟨rfl, rfl⟩ := H
                                  go_wp2
                                  repeat (go_quiet (fail); try go_wp2)
                                  go_ret2
                                  exact ⟨by first | rfl | (simp [errW_none, errW_some] <;> rfl) | (simp [*, errW_none, errW_some] <;> rfl), by repeat (first | (with_reducible first | exact HB.out | apply below_alloc | apply pw_below_drewN | apply below_drew1 | refine below_set ?_ GE152.out | refine below_set ?_ GE154.out) | exact HB.out)⟩
              · rw [if_neg c9] at H
                exact absurd H (by simp)
            · rw [if_neg c8] at H
              exact absurd H (by simp)
          · replace c7 := Bool.eq_false_iff.mpr c7
            subst c7
            have H1 : (some (0, false)) = some (r1, r2) := by rw [if_neg (show ¬ (false = true) by decide)] at H; exact H
            clear H
            have H := H1
            clear H1
            simp only [Option.some.injEq, Prod.mk.injEq] at H
            obtain ⟨rfl, rfl⟩ := H
            go_wp2
            repeat (go_quiet (fail); try go_wp2)
            go_ret2
            exact ⟨by first | rfl | (simp [errW_none, errW_some] <;> rfl) | (simp [*, errW_none, errW_some] <;> rfl), by repeat (first | (with_reducible first | exact HB.out | apply below_alloc | apply pw_below_drewN | apply below_drew1 | refine below_set ?_ GE152.out) | exact HB.out)⟩

end Go.Proofs.YtaoippnipcchmaaGreatDoor.PT
