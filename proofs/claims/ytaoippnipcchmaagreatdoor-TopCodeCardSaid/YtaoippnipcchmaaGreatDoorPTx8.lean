-- Written by a program of this session's (the kit's print, turned), out of the translation.
import Derived.Test.YtaoippnipcchmaaGreatDoorPTx0
namespace Go.Proofs.YtaoippnipcchmaaGreatDoor.PT
open Go.RowKit Go.Proofs.YtaoippnipcchmaaGreatDoorW.PrintWords Go.Proofs.YtaoippnipcchmaaGreatDoorW.PrintLast Go.Proofs.YtaoippnipcchmaaGreatDoorW.PrintMore
attribute [local go_sem] max2_int min2_int max_two min_two max_three min_three max_four min_four   -- for this text's walks alone
set_option linter.unusedVariables false
set_option linter.unusedSimpArgs false

/-! ### parse_binds: function 96 -/
mutual
def parse_binds.j0 : Nat → Bool → Int → ByteArray → Int → Int → Option (Int)
  | 0, _, _, _, _, _ => none
  | k + 1, x10, x128000, x128001, x128002, x128003 => if x10 = true then (some 0) else (if x128001.toList = ([111, 114] : List UInt8) then (some 1) else (if x128001.toList = ([97, 110, 100] : List UInt8) then (some 2) else (if x128001.toList = ([60] : List UInt8) then (parse_binds.j1 k x128001 (x128001.toList == ([60] : List UInt8))) else (if x128001.toList = ([62] : List UInt8) then (parse_binds.j1 k x128001 (x128001.toList == ([62] : List UInt8))) else (if x128001.toList = ([60, 61] : List UInt8) then (parse_binds.j1 k x128001 (x128001.toList == ([60, 61] : List UInt8))) else (if x128001.toList = ([62, 61] : List UInt8) then (parse_binds.j1 k x128001 (x128001.toList == ([62, 61] : List UInt8))) else (if x128001.toList = ([126, 61] : List UInt8) then (parse_binds.j1 k x128001 (x128001.toList == ([126, 61] : List UInt8))) else (parse_binds.j1 k x128001 (x128001.toList == ([61, 61] : List UInt8))))))))))
def parse_binds.j1 : Nat → ByteArray → Bool → Option (Int)
  | 0, _, _ => none
  | k + 1, x12, x17 => if x17 = true then (some 3) else (if x12.toList = ([46, 46] : List UInt8) then (some 4) else (if x12.toList = ([43] : List UInt8) then (parse_binds.j2 k x12 (x12.toList == ([43] : List UInt8))) else (parse_binds.j2 k x12 (x12.toList == ([45] : List UInt8)))))
def parse_binds.j2 : Nat → ByteArray → Bool → Option (Int)
  | 0, _, _ => none
  | k + 1, x12, x26 => if x26 = true then (some 5) else (if x12.toList = ([42] : List UInt8) then (some 6) else (if x12.toList = ([47, 47] : List UInt8) then (some 6) else (if x12.toList = ([37] : List UInt8) then (some 6) else (some 0))))
end
def parse_binds.f (k : Nat) (a0_0 : Int) (a0_1 : ByteArray) (a0_2 : Int) (a0_3 : Int) : Option (Int) := if a0_0 = 5 then (parse_binds.j0 k false a0_0 a0_1 a0_2 a0_3) else (parse_binds.j0 k (a0_0 != 2) a0_0 a0_1 a0_2 a0_3)
theorem parse_binds.mono_l : ∀ k, (∀ y0 y1 y2 y3 y4, LeO (parse_binds.j0 k y0 y1 y2 y3 y4) (parse_binds.j0 (k + 1) y0 y1 y2 y3 y4)) ∧ (∀ y0 y1, LeO (parse_binds.j1 k y0 y1) (parse_binds.j1 (k + 1) y0 y1)) ∧ (∀ y0 y1, LeO (parse_binds.j2 k y0 y1) (parse_binds.j2 (k + 1) y0 y1))
  | 0 => ⟨fun _ _ _ _ _ r h => by simp [parse_binds.j0] at h, fun _ _ r h => by simp [parse_binds.j1] at h, fun _ _ r h => by simp [parse_binds.j2] at h⟩
  | k + 1 => by
    obtain ⟨ih0, ih1, ih2⟩ := parse_binds.mono_l k
    refine ⟨?_, ?_, ?_⟩
    · intro y0 y1 y2 y3 y4
      unfold parse_binds.j0
      repeat' first
      | (with_reducible exact ih0 _ _ _ _ _)
      | (with_reducible exact ih1 _ _)
      | (with_reducible exact ih2 _ _)
      | (with_reducible exact LeO.refl _)
      | (with_reducible exact LeO.none _)
      | (with_reducible refine LeO.ite ?_ ?_)
      | (with_reducible refine LeO.bind ?_ (fun _ => ?_))
      | exact ih0 _ _ _ _ _
      | exact ih1 _ _
      | exact ih2 _ _
      | exact LeO.none _
      | refine LeO.ite ?_ ?_
      | refine LeO.bind ?_ (fun _ => ?_)
    · intro y0 y1
      unfold parse_binds.j1
      repeat' first
      | (with_reducible exact ih0 _ _ _ _ _)
      | (with_reducible exact ih1 _ _)
      | (with_reducible exact ih2 _ _)
      | (with_reducible exact LeO.refl _)
      | (with_reducible exact LeO.none _)
      | (with_reducible refine LeO.ite ?_ ?_)
      | (with_reducible refine LeO.bind ?_ (fun _ => ?_))
      | exact ih0 _ _ _ _ _
      | exact ih1 _ _
      | exact ih2 _ _
      | exact LeO.none _
      | refine LeO.ite ?_ ?_
      | refine LeO.bind ?_ (fun _ => ?_)
    · intro y0 y1
      unfold parse_binds.j2
      repeat' first
      | (with_reducible exact ih0 _ _ _ _ _)
      | (with_reducible exact ih1 _ _)
      | (with_reducible exact ih2 _ _)
      | (with_reducible exact LeO.refl _)
      | (with_reducible exact LeO.none _)
      | (with_reducible refine LeO.ite ?_ ?_)
      | (with_reducible refine LeO.bind ?_ (fun _ => ?_))
      | exact ih0 _ _ _ _ _
      | exact ih1 _ _
      | exact ih2 _ _
      | exact LeO.none _
      | refine LeO.ite ?_ ?_
      | refine LeO.bind ?_ (fun _ => ?_)
theorem parse_binds.mono : ∀ a0 a1 a2 a3 k, LeO (parse_binds.f k a0 a1 a2 a3) (parse_binds.f (k + 1) a0 a1 a2 a3) := by
  intro a0 a1 a2 a3 k
  obtain ⟨ih0, ih1, ih2⟩ := parse_binds.mono_l k
  unfold parse_binds.f
  repeat' first
      | (with_reducible exact ih0 _ _ _ _ _)
      | (with_reducible exact ih1 _ _)
      | (with_reducible exact ih2 _ _)
      | (with_reducible exact LeO.refl _)
      | (with_reducible exact LeO.none _)
      | (with_reducible refine LeO.ite ?_ ?_)
      | (with_reducible refine LeO.bind ?_ (fun _ => ?_))
      | exact ih0 _ _ _ _ _
      | exact ih1 _ _
      | exact ih2 _ _
      | exact LeO.none _
      | refine LeO.ite ?_ ?_
      | refine LeO.bind ?_ (fun _ => ?_)
set_option maxHeartbeats 8000000 in
set_option maxRecDepth 100000 in
theorem parse_binds.calls (k : Nat) (a0_0 : Int) (a0_1 : ByteArray) (a0_2 : Int) (a0_3 : Int) (r : Int) (w : World) (h : parse_binds.f k a0_0 a0_1 a0_2 a0_3 = some r) :
    Calls Tryz.prog 96 #[.agg #[.int .i64 a0_0, .string a0_1, .int .i64 a0_2, .int .i64 a0_3]] w fun e w' => e = .returned (.int .i64 r) ∧ Below w.heap.size w w' := by
  have hu88 := Tryz.underlying88
  have HB := Aside0.mk (Below.refl w.heap.size w)
  have H : (if a0_0 = 5 then (parse_binds.j0 k false a0_0 a0_1 a0_2 a0_3) else (parse_binds.j0 k (a0_0 != 2) a0_0 a0_1 a0_2 a0_3)) = some r := h
  clear h
  have HC2 := Aside0.mk H
  clear H
  go_enter Tryz.func96, Tryz.ntmps96
  go_upto_region 1 with (first | ((with_reducible refine gate_dst (N := 1) rfl ?_); refine box_event ?hg (N := 1) ?hd (cs := #[.int .i64 a0_0, .string a0_1, .int .i64 a0_2, .int .i64 a0_3]) (t := 88) ?hr ?_; (case hd => rfl); (case hg => rfl); (case hr => first | (go_simp; done) | (go_simp; rfl)); intro gb127 hg w3 hbox hb; have n0_ := Aside0.mk (below_step (by repeat (first | (with_reducible first | exact HB.out | apply below_alloc | apply pw_below_drewN | apply below_drew1) | exact HB.out)) hb); have n1_ := Aside0.mk (hbox); have n2_ := Aside0.mk ((by rw [hg]; exact (below_size (by repeat (first | (with_reducible first | exact HB.out | apply below_alloc | apply pw_below_drewN | apply below_drew1) | exact HB.out))) : w.heap.size ≤ gb127)); have n3_ := Aside0.mk ((by rw [hg]; exact (below_size (by repeat (first | (with_reducible first | exact HB.out | apply below_alloc | apply pw_below_drewN | apply below_drew1) | exact HB.out))) : w.heap.size ≤ gb127)); clear HB; have HB := n0_; have BK127 := n1_; have GW127 := n2_; have GE127 := n3_; clear n0_ n1_ n2_ n3_; clear hb hbox hg))
  (try simp only [Act.put, List.setIfInBounds_toArray, List.set_cons_zero, List.set_cons_succ])
  go_cut [10] (fun v10 wc => ∃ (kq : Nat) (x10_1 : Bool), v10 = .bool x10_1 ∧ Aside0 (parse_binds.j0 kq x10_1 a0_0 a0_1 a0_2 a0_3 = some r) ∧ Aside0 (kq ≤ k) ∧ Aside0 (wc.heap[gb127]? = some (.cells #[.int .i64 a0_0, .string a0_1, .int .i64 a0_2, .int .i64 a0_3] 88 (0, 0))) ∧ Aside0 (Below w.heap.size w wc))
  case first =>
    have H := HC2.out
    clear HC2
    by_cases c4 : a0_0 = 5
    · rw [if_pos c4] at H
      have c4b0 : (a0_0 == 5) = true := beq_iff_eq.mpr c4
      have c4b1 : (a0_0 != 5) = false := bne_eq_false_iff_eq.mpr c4
      clear c4
      (first | rw [c4b0] | (simp only [i64_w, i32_w]; rw [c4b0]) | skip)
      have H' := Aside0.mk H
      clear H
      have hcz5_0 : w3.cell? ⟨gb127, 0, none⟩ = some (.int .i64 a0_0) := (blk_cell BK127.out 0).trans rfl
      have hcz5_1 : w3.cell? ⟨gb127, 1, none⟩ = some (.string a0_1) := (blk_cell BK127.out 1).trans rfl
      have hcz5_2 : w3.cell? ⟨gb127, 2, none⟩ = some (.int .i64 a0_2) := (blk_cell BK127.out 2).trans rfl
      have hcz5_3 : w3.cell? ⟨gb127, 3, none⟩ = some (.int .i64 a0_3) := (blk_cell BK127.out 3).trans rfl
      have hfz5_0 := blk_frozen BK127.out 0
      have hfz5_1 := blk_frozen BK127.out 1
      have hfz5_2 := blk_frozen BK127.out 2
      have hfz5_3 := blk_frozen BK127.out 3
      go_wp2
      go_meet
      case rel => exact ⟨_, (false), (by first | rfl | (simp; done) | (simp [*]; done)), H', ⟨by first | omega | exact Nat.le_refl _⟩, ⟨by (with_reducible repeat (first | refine blk_drewN ?_ _ | refine blk_drew ?_ | refine blk_alloc ?_ _)); exact BK127.out⟩, ⟨by repeat (first | (with_reducible first | exact HB.out | apply below_alloc | apply pw_below_drewN | apply below_drew1 | refine below_set ?_ GE127.out) | exact HB.out)⟩⟩
    · rw [if_neg c4] at H
      have c4b0 : (a0_0 == 5) = false := beq_eq_false_iff_ne.mpr c4
      have c4b1 : (a0_0 != 5) = true := bne_iff_ne.mpr c4
      (first | rw [c4b0] | (simp only [i64_w, i32_w]; rw [c4b0]) | skip)
      have H' := Aside0.mk H
      clear H
      have hcz6_0 : w3.cell? ⟨gb127, 0, none⟩ = some (.int .i64 a0_0) := (blk_cell BK127.out 0).trans rfl
      have hcz6_1 : w3.cell? ⟨gb127, 1, none⟩ = some (.string a0_1) := (blk_cell BK127.out 1).trans rfl
      have hcz6_2 : w3.cell? ⟨gb127, 2, none⟩ = some (.int .i64 a0_2) := (blk_cell BK127.out 2).trans rfl
      have hcz6_3 : w3.cell? ⟨gb127, 3, none⟩ = some (.int .i64 a0_3) := (blk_cell BK127.out 3).trans rfl
      have hfz6_0 := blk_frozen BK127.out 0
      have hfz6_1 := blk_frozen BK127.out 1
      have hfz6_2 := blk_frozen BK127.out 2
      have hfz6_3 := blk_frozen BK127.out 3
      go_wp2
      go_meet
      case rel => exact ⟨_, ((a0_0 != 2)), (by first | rfl | (simp; done) | (simp [*]; done)), H', ⟨by first | omega | exact Nat.le_refl _⟩, ⟨by (with_reducible repeat (first | refine blk_drewN ?_ _ | refine blk_drew ?_ | refine blk_alloc ?_ _)); exact BK127.out⟩, ⟨by repeat (first | (with_reducible first | exact HB.out | apply below_alloc | apply pw_below_drewN | apply below_drew1 | refine below_set ?_ GE127.out) | exact HB.out)⟩⟩
  case rest =>
    clear HC2
    try clear p2
    try clear c4
    try clear c4b0
    try clear c4b1
    try clear hcz5_0
    try clear hcz5_1
    try clear hcz5_2
    try clear hcz5_3
    try clear hcz6_0
    try clear hcz6_1
    try clear hcz6_2
    try clear hcz6_3
    try clear hfz5_0
    try clear hfz5_1
    try clear hfz5_2
    try clear hfz5_3
    try clear hfz6_0
    try clear hfz6_1
    try clear hfz6_2
    try clear hfz6_3
    obtain ⟨kq, x10_1, rfl, HA, HJ1, BK127, HB⟩ := hcut
    cases kq with
    | zero => exact absurd HA.out (by simp [parse_binds.j0])
    | succ kj1 =>
      have H := HA.out
      clear HA
      simp only [parse_binds.j0] at H
      by_cases c7 : x10_1 = true
      · subst c7
        have H1 : (some 0) = some r := by rw [if_pos rfl] at H; exact H
        clear H
        have H := H1
        clear H1
        obtain rfl := Option.some.inj H
        go_wp2
        go_ret
        exact ⟨by first | rfl | (simp [errW_none, errW_some] <;> rfl) | (simp [*, errW_none, errW_some] <;> rfl), by repeat (first | (with_reducible first | exact HB.out | apply below_alloc | apply pw_below_drewN | apply below_drew1 | refine below_set ?_ GE127.out) | exact HB.out)⟩
      · replace c7 := Bool.eq_false_iff.mpr c7
        subst c7
        have H1 : (if a0_1.toList = ([111, 114] : List UInt8) then (some 1) else (if a0_1.toList = ([97, 110, 100] : List UInt8) then (some 2) else (if a0_1.toList = ([60] : List UInt8) then (parse_binds.j1 kj1 a0_1 (a0_1.toList == ([60] : List UInt8))) else (if a0_1.toList = ([62] : List UInt8) then (parse_binds.j1 kj1 a0_1 (a0_1.toList == ([62] : List UInt8))) else (if a0_1.toList = ([60, 61] : List UInt8) then (parse_binds.j1 kj1 a0_1 (a0_1.toList == ([60, 61] : List UInt8))) else (if a0_1.toList = ([62, 61] : List UInt8) then (parse_binds.j1 kj1 a0_1 (a0_1.toList == ([62, 61] : List UInt8))) else (if a0_1.toList = ([126, 61] : List UInt8) then (parse_binds.j1 kj1 a0_1 (a0_1.toList == ([126, 61] : List UInt8))) else (parse_binds.j1 kj1 a0_1 (a0_1.toList == ([61, 61] : List UInt8)))))))))) = some r := by rw [if_neg (show ¬ (false = true) by decide)] at H; exact H
        clear H
        have H := H1
        clear H1
        by_cases c8 : a0_1.toList = ([111, 114] : List UInt8)
        · rw [if_pos c8] at H
          have c8b0 : (a0_1.toList == ([111, 114] : List UInt8)) = true := beq_iff_eq.mpr c8
          have c8b1 : (a0_1.toList != ([111, 114] : List UInt8)) = false := bne_eq_false_iff_eq.mpr c8
          clear c8
          obtain rfl := Option.some.inj H
          have hcz9_0 : wc.cell? ⟨gb127, 0, none⟩ = some (.int .i64 a0_0) := (blk_cell BK127.out 0).trans rfl
          have hcz9_1 : wc.cell? ⟨gb127, 1, none⟩ = some (.string a0_1) := (blk_cell BK127.out 1).trans rfl
          have hcz9_2 : wc.cell? ⟨gb127, 2, none⟩ = some (.int .i64 a0_2) := (blk_cell BK127.out 2).trans rfl
          have hcz9_3 : wc.cell? ⟨gb127, 3, none⟩ = some (.int .i64 a0_3) := (blk_cell BK127.out 3).trans rfl
          have hfz9_0 := blk_frozen BK127.out 0
          have hfz9_1 := blk_frozen BK127.out 1
          have hfz9_2 := blk_frozen BK127.out 2
          have hfz9_3 := blk_frozen BK127.out 3
          go_wp2
          go_ret
          exact ⟨by first | rfl | (simp [errW_none, errW_some] <;> rfl) | (simp [*, errW_none, errW_some] <;> rfl), by repeat (first | (with_reducible first | exact HB.out | apply below_alloc | apply pw_below_drewN | apply below_drew1 | refine below_set ?_ GE127.out) | exact HB.out)⟩
        · rw [if_neg c8] at H
          have c8b0 : (a0_1.toList == ([111, 114] : List UInt8)) = false := beq_eq_false_iff_ne.mpr c8
          have c8b1 : (a0_1.toList != ([111, 114] : List UInt8)) = true := bne_iff_ne.mpr c8
          by_cases c10 : a0_1.toList = ([97, 110, 100] : List UInt8)
          · rw [if_pos c10] at H
            have c10b0 : (a0_1.toList == ([97, 110, 100] : List UInt8)) = true := beq_iff_eq.mpr c10
            have c10b1 : (a0_1.toList != ([97, 110, 100] : List UInt8)) = false := bne_eq_false_iff_eq.mpr c10
            clear c10
            obtain rfl := Option.some.inj H
            have hcz11_0 : wc.cell? ⟨gb127, 0, none⟩ = some (.int .i64 a0_0) := (blk_cell BK127.out 0).trans rfl
            have hcz11_1 : wc.cell? ⟨gb127, 1, none⟩ = some (.string a0_1) := (blk_cell BK127.out 1).trans rfl
            have hcz11_2 : wc.cell? ⟨gb127, 2, none⟩ = some (.int .i64 a0_2) := (blk_cell BK127.out 2).trans rfl
            have hcz11_3 : wc.cell? ⟨gb127, 3, none⟩ = some (.int .i64 a0_3) := (blk_cell BK127.out 3).trans rfl
            have hfz11_0 := blk_frozen BK127.out 0
            have hfz11_1 := blk_frozen BK127.out 1
            have hfz11_2 := blk_frozen BK127.out 2
            have hfz11_3 := blk_frozen BK127.out 3
            go_wp2
            go_ret
            exact ⟨by first | rfl | (simp [errW_none, errW_some] <;> rfl) | (simp [*, errW_none, errW_some] <;> rfl), by repeat (first | (with_reducible first | exact HB.out | apply below_alloc | apply pw_below_drewN | apply below_drew1 | refine below_set ?_ GE127.out) | exact HB.out)⟩
          · rw [if_neg c10] at H
            have c10b0 : (a0_1.toList == ([97, 110, 100] : List UInt8)) = false := beq_eq_false_iff_ne.mpr c10
            have c10b1 : (a0_1.toList != ([97, 110, 100] : List UInt8)) = true := bne_iff_ne.mpr c10
            have HC12 := Aside0.mk H
            clear H
            have hcz13_0 : wc.cell? ⟨gb127, 0, none⟩ = some (.int .i64 a0_0) := (blk_cell BK127.out 0).trans rfl
            have hcz13_1 : wc.cell? ⟨gb127, 1, none⟩ = some (.string a0_1) := (blk_cell BK127.out 1).trans rfl
            have hcz13_2 : wc.cell? ⟨gb127, 2, none⟩ = some (.int .i64 a0_2) := (blk_cell BK127.out 2).trans rfl
            have hcz13_3 : wc.cell? ⟨gb127, 3, none⟩ = some (.int .i64 a0_3) := (blk_cell BK127.out 3).trans rfl
            have hfz13_0 := blk_frozen BK127.out 0
            have hfz13_1 := blk_frozen BK127.out 1
            have hfz13_2 := blk_frozen BK127.out 2
            have hfz13_3 := blk_frozen BK127.out 3
            go_upto_if 17 with (fail)
            go_cut [17] (fun v17 wc => ∃ (kq : Nat) (x17_11 : Bool), v17 = .bool x17_11 ∧ Aside0 (parse_binds.j1 kq a0_1 x17_11 = some r) ∧ Aside0 (kq ≤ kj1) ∧ Aside0 (wc.heap[gb127]? = some (.cells #[.int .i64 a0_0, .string a0_1, .int .i64 a0_2, .int .i64 a0_3] 88 (0, 0))) ∧ Aside0 (Below w.heap.size w wc))
            case first =>
              have H := HC12.out
              clear HC12
              by_cases c14 : a0_1.toList = ([60] : List UInt8)
              · rw [if_pos c14] at H
                have c14b0 : (a0_1.toList == ([60] : List UInt8)) = true := beq_iff_eq.mpr c14
                have c14b1 : (a0_1.toList != ([60] : List UInt8)) = false := bne_eq_false_iff_eq.mpr c14
                clear c14
                (first | rw [c14b0] | (simp only [i64_w, i32_w]; rw [c14b0]) | skip)
                have H' := Aside0.mk H
                clear H
                go_wp2
                go_meet
                case rel => exact ⟨_, ((a0_1.toList == ([60] : List UInt8))), (by first | rfl | (simp; done) | (simp [*]; done)), H', ⟨by have := HJ1.out; first | omega | exact Nat.le_refl _⟩, ⟨by (with_reducible repeat (first | refine blk_drewN ?_ _ | refine blk_drew ?_ | refine blk_alloc ?_ _)); exact BK127.out⟩, ⟨by repeat (first | (with_reducible first | exact HB.out | apply below_alloc | apply pw_below_drewN | apply below_drew1 | refine below_set ?_ GE127.out) | exact HB.out)⟩⟩
              · rw [if_neg c14] at H
                have c14b0 : (a0_1.toList == ([60] : List UInt8)) = false := beq_eq_false_iff_ne.mpr c14
                have c14b1 : (a0_1.toList != ([60] : List UInt8)) = true := bne_iff_ne.mpr c14
                (first | rw [c14b0] | (simp only [i64_w, i32_w]; rw [c14b0]) | skip)
                by_cases c15 : a0_1.toList = ([62] : List UInt8)
                · rw [if_pos c15] at H
                  have c15b0 : (a0_1.toList == ([62] : List UInt8)) = true := beq_iff_eq.mpr c15
                  have c15b1 : (a0_1.toList != ([62] : List UInt8)) = false := bne_eq_false_iff_eq.mpr c15
                  clear c15
                  have H' := Aside0.mk H
                  clear H
                  go_wp2
                  go_meet
                  case rel => exact ⟨_, ((a0_1.toList == ([62] : List UInt8))), (by first | rfl | (simp; done) | (simp [*]; done)), H', ⟨by have := HJ1.out; first | omega | exact Nat.le_refl _⟩, ⟨by (with_reducible repeat (first | refine blk_drewN ?_ _ | refine blk_drew ?_ | refine blk_alloc ?_ _)); exact BK127.out⟩, ⟨by repeat (first | (with_reducible first | exact HB.out | apply below_alloc | apply pw_below_drewN | apply below_drew1 | refine below_set ?_ GE127.out) | exact HB.out)⟩⟩
                · rw [if_neg c15] at H
                  have c15b0 : (a0_1.toList == ([62] : List UInt8)) = false := beq_eq_false_iff_ne.mpr c15
                  have c15b1 : (a0_1.toList != ([62] : List UInt8)) = true := bne_iff_ne.mpr c15
                  by_cases c16 : a0_1.toList = ([60, 61] : List UInt8)
                  · rw [if_pos c16] at H
                    have c16b0 : (a0_1.toList == ([60, 61] : List UInt8)) = true := beq_iff_eq.mpr c16
                    have c16b1 : (a0_1.toList != ([60, 61] : List UInt8)) = false := bne_eq_false_iff_eq.mpr c16
                    clear c16
                    have H' := Aside0.mk H
                    clear H
                    go_wp2
                    go_meet
                    case rel => exact ⟨_, ((a0_1.toList == ([60, 61] : List UInt8))), (by first | rfl | (simp; done) | (simp [*]; done)), H', ⟨by have := HJ1.out; first | omega | exact Nat.le_refl _⟩, ⟨by (with_reducible repeat (first | refine blk_drewN ?_ _ | refine blk_drew ?_ | refine blk_alloc ?_ _)); exact BK127.out⟩, ⟨by repeat (first | (with_reducible first | exact HB.out | apply below_alloc | apply pw_below_drewN | apply below_drew1 | refine below_set ?_ GE127.out) | exact HB.out)⟩⟩
                  · rw [if_neg c16] at H
                    have c16b0 : (a0_1.toList == ([60, 61] : List UInt8)) = false := beq_eq_false_iff_ne.mpr c16
                    have c16b1 : (a0_1.toList != ([60, 61] : List UInt8)) = true := bne_iff_ne.mpr c16
                    by_cases c17 : a0_1.toList = ([62, 61] : List UInt8)
                    · rw [if_pos c17] at H
                      have c17b0 : (a0_1.toList == ([62, 61] : List UInt8)) = true := beq_iff_eq.mpr c17
                      have c17b1 : (a0_1.toList != ([62, 61] : List UInt8)) = false := bne_eq_false_iff_eq.mpr c17
                      clear c17
                      have H' := Aside0.mk H
                      clear H
                      go_wp2
                      go_meet
                      case rel => exact ⟨_, ((a0_1.toList == ([62, 61] : List UInt8))), (by first | rfl | (simp; done) | (simp [*]; done)), H', ⟨by have := HJ1.out; first | omega | exact Nat.le_refl _⟩, ⟨by (with_reducible repeat (first | refine blk_drewN ?_ _ | refine blk_drew ?_ | refine blk_alloc ?_ _)); exact BK127.out⟩, ⟨by repeat (first | (with_reducible first | exact HB.out | apply below_alloc | apply pw_below_drewN | apply below_drew1 | refine below_set ?_ GE127.out) | exact HB.out)⟩⟩
                    · rw [if_neg c17] at H
                      have c17b0 : (a0_1.toList == ([62, 61] : List UInt8)) = false := beq_eq_false_iff_ne.mpr c17
                      have c17b1 : (a0_1.toList != ([62, 61] : List UInt8)) = true := bne_iff_ne.mpr c17
                      by_cases c18 : a0_1.toList = ([126, 61] : List UInt8)
                      · rw [if_pos c18] at H
                        have c18b0 : (a0_1.toList == ([126, 61] : List UInt8)) = true := beq_iff_eq.mpr c18
                        have c18b1 : (a0_1.toList != ([126, 61] : List UInt8)) = false := bne_eq_false_iff_eq.mpr c18
                        clear c18
                        have H' := Aside0.mk H
                        clear H
                        go_wp2
                        go_meet
                        case rel => exact ⟨_, ((a0_1.toList == ([126, 61] : List UInt8))), (by first | rfl | (simp; done) | (simp [*]; done)), H', ⟨by have := HJ1.out; first | omega | exact Nat.le_refl _⟩, ⟨by (with_reducible repeat (first | refine blk_drewN ?_ _ | refine blk_drew ?_ | refine blk_alloc ?_ _)); exact BK127.out⟩, ⟨by repeat (first | (with_reducible first | exact HB.out | apply below_alloc | apply pw_below_drewN | apply below_drew1 | refine below_set ?_ GE127.out) | exact HB.out)⟩⟩
                      · rw [if_neg c18] at H
                        have c18b0 : (a0_1.toList == ([126, 61] : List UInt8)) = false := beq_eq_false_iff_ne.mpr c18
                        have c18b1 : (a0_1.toList != ([126, 61] : List UInt8)) = true := bne_iff_ne.mpr c18
                        have H' := Aside0.mk H
                        clear H
                        go_wp2
                        go_meet
                        case rel => exact ⟨_, ((a0_1.toList == ([61, 61] : List UInt8))), (by first | rfl | (simp; done) | (simp [*]; done)), H', ⟨by have := HJ1.out; first | omega | exact Nat.le_refl _⟩, ⟨by (with_reducible repeat (first | refine blk_drewN ?_ _ | refine blk_drew ?_ | refine blk_alloc ?_ _)); exact BK127.out⟩, ⟨by repeat (first | (with_reducible first | exact HB.out | apply below_alloc | apply pw_below_drewN | apply below_drew1 | refine below_set ?_ GE127.out) | exact HB.out)⟩⟩
            case rest =>
              clear HC12
              try clear c1
              try clear p2
              try clear c4
              try clear c4b0
              try clear c4b1
              try clear c7
              try clear c8
              try clear c8b0
              try clear c8b1
              try clear c9
              try clear c10
              try clear c10b0
              try clear c10b1
              try clear c14
              try clear c14b0
              try clear c14b1
              try clear c15
              try clear c15b0
              try clear c15b1
              try clear c16
              try clear c16b0
              try clear c16b1
              try clear c17
              try clear c17b0
              try clear c17b1
              try clear c18
              try clear c18b0
              try clear c18b1
              try clear hcz11_0
              try clear hcz11_1
              try clear hcz11_2
              try clear hcz11_3
              try clear hcz13_0
              try clear hcz13_1
              try clear hcz13_2
              try clear hcz13_3
              try clear hcz5_0
              try clear hcz5_1
              try clear hcz5_2
              try clear hcz5_3
              try clear hcz6_0
              try clear hcz6_1
              try clear hcz6_2
              try clear hcz6_3
              try clear hcz9_0
              try clear hcz9_1
              try clear hcz9_2
              try clear hcz9_3
              try clear hfz11_0
              try clear hfz11_1
              try clear hfz11_2
              try clear hfz11_3
              try clear hfz13_0
              try clear hfz13_1
              try clear hfz13_2
              try clear hfz13_3
              try clear hfz5_0
              try clear hfz5_1
              try clear hfz5_2
              try clear hfz5_3
              try clear hfz6_0
              try clear hfz6_1
              try clear hfz6_2
              try clear hfz6_3
              try clear hfz9_0
              try clear hfz9_1
              try clear hfz9_2
              try clear hfz9_3
              try clear p2
              obtain ⟨kq, x17_11, rfl, HA, HJ11, BK127, HB⟩ := hcut
              cases kq with
              | zero => exact absurd HA.out (by simp [parse_binds.j1])
              | succ kj11 =>
                have H := HA.out
                clear HA
                simp only [parse_binds.j1] at H
                by_cases c19 : x17_11 = true
                · subst c19
                  have H1 : (some 3) = some r := by rw [if_pos rfl] at H; exact H
                  clear H
                  have H := H1
                  clear H1
                  obtain rfl := Option.some.inj H
                  go_wp2
                  go_ret
                  exact ⟨by first | rfl | (simp [errW_none, errW_some] <;> rfl) | (simp [*, errW_none, errW_some] <;> rfl), by repeat (first | (with_reducible first | exact HB.out | apply below_alloc | apply pw_below_drewN | apply below_drew1 | refine below_set ?_ GE127.out) | exact HB.out)⟩
                · replace c19 := Bool.eq_false_iff.mpr c19
                  subst c19
                  have H1 : (if a0_1.toList = ([46, 46] : List UInt8) then (some 4) else (if a0_1.toList = ([43] : List UInt8) then (parse_binds.j2 kj11 a0_1 (a0_1.toList == ([43] : List UInt8))) else (parse_binds.j2 kj11 a0_1 (a0_1.toList == ([45] : List UInt8))))) = some r := by rw [if_neg (show ¬ (false = true) by decide)] at H; exact H
                  clear H
                  have H := H1
                  clear H1
                  by_cases c20 : a0_1.toList = ([46, 46] : List UInt8)
                  · rw [if_pos c20] at H
                    have c20b0 : (a0_1.toList == ([46, 46] : List UInt8)) = true := beq_iff_eq.mpr c20
                    have c20b1 : (a0_1.toList != ([46, 46] : List UInt8)) = false := bne_eq_false_iff_eq.mpr c20
                    clear c20
                    obtain rfl := Option.some.inj H
                    go_wp2
                    go_ret
                    exact ⟨by first | rfl | (simp [errW_none, errW_some] <;> rfl) | (simp [*, errW_none, errW_some] <;> rfl), by repeat (first | (with_reducible first | exact HB.out | apply below_alloc | apply pw_below_drewN | apply below_drew1 | refine below_set ?_ GE127.out) | exact HB.out)⟩
                  · rw [if_neg c20] at H
                    have c20b0 : (a0_1.toList == ([46, 46] : List UInt8)) = false := beq_eq_false_iff_ne.mpr c20
                    have c20b1 : (a0_1.toList != ([46, 46] : List UInt8)) = true := bne_iff_ne.mpr c20
                    have HC21 := Aside0.mk H
                    clear H
                    go_upto_if 26 with (fail)
                    go_cut [26] (fun v26 wc => ∃ (kq : Nat) (x26_20 : Bool), v26 = .bool x26_20 ∧ Aside0 (parse_binds.j2 kq a0_1 x26_20 = some r) ∧ Aside0 (kq ≤ kj11) ∧ Aside0 (wc.heap[gb127]? = some (.cells #[.int .i64 a0_0, .string a0_1, .int .i64 a0_2, .int .i64 a0_3] 88 (0, 0))) ∧ Aside0 (Below w.heap.size w wc))
                    case first =>
                      have H := HC21.out
                      clear HC21
                      by_cases c22 : a0_1.toList = ([43] : List UInt8)
                      · rw [if_pos c22] at H
                        have c22b0 : (a0_1.toList == ([43] : List UInt8)) = true := beq_iff_eq.mpr c22
                        have c22b1 : (a0_1.toList != ([43] : List UInt8)) = false := bne_eq_false_iff_eq.mpr c22
                        clear c22
                        (first | rw [c22b0] | (simp only [i64_w, i32_w]; rw [c22b0]) | skip)
                        have H' := Aside0.mk H
                        clear H
                        go_wp2
                        go_meet
                        case rel => exact ⟨_, ((a0_1.toList == ([43] : List UInt8))), (by first | rfl | (simp; done) | (simp [*]; done)), H', ⟨by have := HJ1.out; have := HJ11.out; first | omega | exact Nat.le_refl _⟩, ⟨by (with_reducible repeat (first | refine blk_drewN ?_ _ | refine blk_drew ?_ | refine blk_alloc ?_ _)); exact BK127.out⟩, ⟨by repeat (first | (with_reducible first | exact HB.out | apply below_alloc | apply pw_below_drewN | apply below_drew1 | refine below_set ?_ GE127.out) | exact HB.out)⟩⟩
                      · rw [if_neg c22] at H
                        have c22b0 : (a0_1.toList == ([43] : List UInt8)) = false := beq_eq_false_iff_ne.mpr c22
                        have c22b1 : (a0_1.toList != ([43] : List UInt8)) = true := bne_iff_ne.mpr c22
                        (first | rw [c22b0] | (simp only [i64_w, i32_w]; rw [c22b0]) | skip)
                        have H' := Aside0.mk H
                        clear H
                        go_wp2
                        go_meet
                        case rel => exact ⟨_, ((a0_1.toList == ([45] : List UInt8))), (by first | rfl | (simp; done) | (simp [*]; done)), H', ⟨by have := HJ1.out; have := HJ11.out; first | omega | exact Nat.le_refl _⟩, ⟨by (with_reducible repeat (first | refine blk_drewN ?_ _ | refine blk_drew ?_ | refine blk_alloc ?_ _)); exact BK127.out⟩, ⟨by repeat (first | (with_reducible first | exact HB.out | apply below_alloc | apply pw_below_drewN | apply below_drew1 | refine below_set ?_ GE127.out) | exact HB.out)⟩⟩
                    case rest =>
                      clear HC21
                      try clear c1
                      try clear c2
                      try clear p2
                      try clear c4
                      try clear c4b0
                      try clear c4b1
                      try clear c7
                      try clear c8
                      try clear c8b0
                      try clear c8b1
                      try clear c9
                      try clear c10
                      try clear c10b0
                      try clear c10b1
                      try clear c14
                      try clear c14b0
                      try clear c14b1
                      try clear c15
                      try clear c15b0
                      try clear c15b1
                      try clear c16
                      try clear c16b0
                      try clear c16b1
                      try clear c17
                      try clear c17b0
                      try clear c17b1
                      try clear c18
                      try clear c18b0
                      try clear c18b1
                      try clear c19
                      try clear c20
                      try clear c20b0
                      try clear c20b1
                      try clear c22
                      try clear c22b0
                      try clear c22b1
                      try clear hcz11_0
                      try clear hcz11_1
                      try clear hcz11_2
                      try clear hcz11_3
                      try clear hcz13_0
                      try clear hcz13_1
                      try clear hcz13_2
                      try clear hcz13_3
                      try clear hcz5_0
                      try clear hcz5_1
                      try clear hcz5_2
                      try clear hcz5_3
                      try clear hcz6_0
                      try clear hcz6_1
                      try clear hcz6_2
                      try clear hcz6_3
                      try clear hcz9_0
                      try clear hcz9_1
                      try clear hcz9_2
                      try clear hcz9_3
                      try clear hfz11_0
                      try clear hfz11_1
                      try clear hfz11_2
                      try clear hfz11_3
                      try clear hfz13_0
                      try clear hfz13_1
                      try clear hfz13_2
                      try clear hfz13_3
                      try clear hfz5_0
                      try clear hfz5_1
                      try clear hfz5_2
                      try clear hfz5_3
                      try clear hfz6_0
                      try clear hfz6_1
                      try clear hfz6_2
                      try clear hfz6_3
                      try clear hfz9_0
                      try clear hfz9_1
                      try clear hfz9_2
                      try clear hfz9_3
                      try clear p2
                      obtain ⟨kq, x26_20, rfl, HA, HJ20, BK127, HB⟩ := hcut
                      cases kq with
                      | zero => exact absurd HA.out (by simp [parse_binds.j2])
                      | succ kj20 =>
                        have H := HA.out
                        clear HA
                        simp only [parse_binds.j2] at H
                        by_cases c23 : x26_20 = true
                        · subst c23
                          have H1 : (some 5) = some r := by rw [if_pos rfl] at H; exact H
                          clear H
                          have H := H1
                          clear H1
                          obtain rfl := Option.some.inj H
                          go_wp2
                          go_ret
                          exact ⟨by first | rfl | (simp [errW_none, errW_some] <;> rfl) | (simp [*, errW_none, errW_some] <;> rfl), by repeat (first | (with_reducible first | exact HB.out | apply below_alloc | apply pw_below_drewN | apply below_drew1 | refine below_set ?_ GE127.out) | exact HB.out)⟩
                        · replace c23 := Bool.eq_false_iff.mpr c23
                          subst c23
                          have H1 : (if a0_1.toList = ([42] : List UInt8) then (some 6) else (if a0_1.toList = ([47, 47] : List UInt8) then (some 6) else (if a0_1.toList = ([37] : List UInt8) then (some 6) else (some 0)))) = some r := by rw [if_neg (show ¬ (false = true) by decide)] at H; exact H
                          clear H
                          have H := H1
                          clear H1
                          by_cases c24 : a0_1.toList = ([42] : List UInt8)
                          · rw [if_pos c24] at H
                            have c24b0 : (a0_1.toList == ([42] : List UInt8)) = true := beq_iff_eq.mpr c24
                            have c24b1 : (a0_1.toList != ([42] : List UInt8)) = false := bne_eq_false_iff_eq.mpr c24
                            clear c24
                            obtain rfl := Option.some.inj H
                            go_wp2
                            go_ret
                            exact ⟨by first | rfl | (simp [errW_none, errW_some] <;> rfl) | (simp [*, errW_none, errW_some] <;> rfl), by repeat (first | (with_reducible first | exact HB.out | apply below_alloc | apply pw_below_drewN | apply below_drew1 | refine below_set ?_ GE127.out) | exact HB.out)⟩
                          · rw [if_neg c24] at H
                            have c24b0 : (a0_1.toList == ([42] : List UInt8)) = false := beq_eq_false_iff_ne.mpr c24
                            have c24b1 : (a0_1.toList != ([42] : List UInt8)) = true := bne_iff_ne.mpr c24
                            by_cases c25 : a0_1.toList = ([47, 47] : List UInt8)
                            · rw [if_pos c25] at H
                              have c25b0 : (a0_1.toList == ([47, 47] : List UInt8)) = true := beq_iff_eq.mpr c25
                              have c25b1 : (a0_1.toList != ([47, 47] : List UInt8)) = false := bne_eq_false_iff_eq.mpr c25
                              clear c25
                              obtain rfl := Option.some.inj H
                              go_wp2
                              go_ret
                              exact ⟨by first | rfl | (simp [errW_none, errW_some] <;> rfl) | (simp [*, errW_none, errW_some] <;> rfl), by repeat (first | (with_reducible first | exact HB.out | apply below_alloc | apply pw_below_drewN | apply below_drew1 | refine below_set ?_ GE127.out) | exact HB.out)⟩
                            · rw [if_neg c25] at H
                              have c25b0 : (a0_1.toList == ([47, 47] : List UInt8)) = false := beq_eq_false_iff_ne.mpr c25
                              have c25b1 : (a0_1.toList != ([47, 47] : List UInt8)) = true := bne_iff_ne.mpr c25
                              by_cases c26 : a0_1.toList = ([37] : List UInt8)
                              · rw [if_pos c26] at H
                                have c26b0 : (a0_1.toList == ([37] : List UInt8)) = true := beq_iff_eq.mpr c26
                                have c26b1 : (a0_1.toList != ([37] : List UInt8)) = false := bne_eq_false_iff_eq.mpr c26
                                clear c26
                                obtain rfl := Option.some.inj H
                                go_wp2
                                go_ret
                                exact ⟨by first | rfl | (simp [errW_none, errW_some] <;> rfl) | (simp [*, errW_none, errW_some] <;> rfl), by repeat (first | (with_reducible first | exact HB.out | apply below_alloc | apply pw_below_drewN | apply below_drew1 | refine below_set ?_ GE127.out) | exact HB.out)⟩
                              · rw [if_neg c26] at H
                                have c26b0 : (a0_1.toList == ([37] : List UInt8)) = false := beq_eq_false_iff_ne.mpr c26
                                have c26b1 : (a0_1.toList != ([37] : List UInt8)) = true := bne_iff_ne.mpr c26
                                obtain rfl := Option.some.inj H
                                go_wp2
                                go_ret
                                exact ⟨by first | rfl | (simp [errW_none, errW_some] <;> rfl) | (simp [*, errW_none, errW_some] <;> rfl), by repeat (first | (with_reducible first | exact HB.out | apply below_alloc | apply pw_below_drewN | apply below_drew1 | refine below_set ?_ GE127.out) | exact HB.out)⟩

end Go.Proofs.YtaoippnipcchmaaGreatDoor.PT
