/- TopCode: the parser's exp, one binary operator. -/
import Derived.Test.YtaoippnipcchmaaGreatDoorMB
import Derived.BigRegion
namespace Go.Proofs.YtaoippnipcchmaaGreatDoor.PT
open Go.RowKit Go.Proofs.YtaoippnipcchmaaGreatDoorW.PrintWords Go.Proofs.YtaoippnipcchmaaGreatDoorW.PrintLast Go.Proofs.YtaoippnipcchmaaGreatDoorW.PrintMore
open Go.Proofs.YtaoippnipcchmaaGreatDoor.TP
set_option linter.unusedVariables false
set_option linter.unusedSimpArgs false

set_option maxHeartbeats 8000000 in
set_option maxRecDepth 100000 in
theorem exp_two {T : List Tk} {g a c j m : Nat} {ta tb : Tr} {w : World} (i : Nat) (hP : Par g a c T i w) (o : Nat) (ho : o = 1 ∨ o = 2 ∨ o = 3 ∨ o = 5 ∨ o = 6)
    (hop : ∀ w, Par g a c T i w → Calls Tryz.prog 95 #[.pointer (some ⟨g, 0, none⟩)] w (Res T g a c ta j w)) (hj : j < T.length) (hmt : Mt (tOp o) (tk T j))
    (hex : ∀ w, Par g a c T (j + 1) w → Calls Tryz.prog 55 #[.pointer (some ⟨g, 0, none⟩), .int .i64 (opB o)] w (Res T g a c tb m w)) (hm : m < T.length) (hmb : parse_binds.f 5 (tk T m).f0 (tk T m).f1 (tk T m).f2 (tk T m).f3 = some 0) :
    Calls Tryz.prog 55 #[.pointer (some ⟨g, 0, none⟩), .int .i64 0] w (Res T g a c (.two (opT o) ta tb) m w) := by
  have HJ := Lib.hid (And.intro hj (And.intro hmt (binds_op ho hmt)))
  have HM := Lib.hid (And.intro hm hmb)
  have HO := Lib.hid hop
  have HX := Lib.hid hex
  have HP := Lib.hid hP
  have hlen := hP.len
  have hj5 : (j : Int) ≤ 65536 := by omega
  have hob : opB o = 5 ∨ opB o = 6 ∨ opB o = 2 ∨ opB o = 1 := by rcases ho with rfl | rfl | rfl | rfl | rfl <;> decide
  have d1 : decide (opB o ≤ 0) = false := decide_eq_false (by omega)
  have d2 : (opB o == 4) = false := beq_eq_false_iff_ne.2 (by omega)
  have hlt := Lib.hid (And.intro hP.lt hP.alt)
  generalize opB o = b at HJ HX d1 d2
  clear hop hP hj hmt hex hm hmb ho hob
  go_enter Tryz.func55, Tryz.ntmps55
  go_wp2_with fail
  obtain ⟨w1, hw1, hb1, hn1, hs1⟩ : ∃ w1, w.alloc (.cells #[.int .i64 0, .string (⟨#[]⟩ : ByteArray), .int .i64 0, .int .i64 0, .slice none 0 0] 51) = w1 ∧ Below w.heap.size w w1 ∧ w1.heap[w.heap.size]? = some (.cells #[.int .i64 0, .string (⟨#[]⟩ : ByteArray), .int .i64 0, .int .i64 0, .slice none 0 0] 51 (0, 0)) ∧ w1.heap.size = w.heap.size + 1 :=
    ⟨_, rfl, (Below.refl _ _).alloc (Nat.le_refl _) _, heap_alloc_new _ _, by simp⟩
  rw [hw1]
  refine (HO.out w1 (HP.out.below hb1)).mono ?_
  rintro e w2 ⟨v, x, rfl, hN, hS, hP2, hF2⟩
  obtain ⟨A, cx, rfl, hR⟩ := hN
  have hn2 := (hF2.block w.heap.size (by omega) (fun e => by have := hlt.out.1; omega)).trans hn1
  have hF02 := (Fr.of_below hb1).trans hF2
  have hs2 := hF2.size
  obtain ⟨w3, hw3, hM3⟩ : ∃ w3, w2.alloc (.cells #[.int .i64 x.f0, .string x.f1, .int .i64 x.f2, .int .i64 x.f3, .slice A x.f4.length cx] 51) = w3 ∧ Mid T g a c w w2.heap.size j x A cx w3 :=
    ⟨_, rfl, hP2.below (below_alloc (Below.refl _ _) _), ((below_alloc (Below.refl _ _) _).block _ (Array.getElem?_eq_some_iff.1 hn2).1).trans hn2, heap_alloc_new _ _, Kd.R_mono (Kd.R_below (Kd.R_elderB (by rw [← hs1]; exact hR) w2.heap.size (Nat.le_refl _)) (below_alloc (Below.refl _ _) _)) (fun k hk => hk.2), hF02.trans (Fr.of_below (below_alloc (Below.refl _ _) _)), by have := hlt.out; omega⟩
  have M3 := Lib.hid (And.intro hM3 hS)
  clear hw1 hb1 hn1 hs1 hR hS hP2 hF2 hn2 hF02 hs2 hM3
  go_wp2_with fail
  clear hw3
  go_loopg [6, 7, 8] 1 (fun kq v6 v7 v8 wr => ∃ (y : Nd) (Ay : Option Addr) (cy : Nat), RowKit.Hid (kq = 1 ∧ Mid T g a c w w2.heap.size j y Ay cy wr ∧ Sh ta y ∨ kq = 0 ∧ Mid T g a c w w2.heap.size m y Ay cy wr ∧ Sh (.two (opT o) ta tb) y))
  case atStart => exact ⟨x, A, cx, Lib.hid (.inl ⟨rfl, M3.out⟩)⟩
  case round =>
    clear M3
    obtain ⟨y, Ay, cy, hMM⟩ := hrel
    cases gk with
    | zero =>
      obtain ⟨_, hM, hY⟩ : _ ∧ _ ∧ _ := hMM.out.resolve_left (fun e => by omega)
      have M := Lib.hid hM
      have Y := Lib.hid hY
      clear hMM hM hY
      have d3 : decide ((0 : Int) ≤ 0) = true := by decide
      go_wp2_with fail
      refine (now_call M.out.par HM.out.1).mono ?_
      rintro e w4 ⟨rfl, hb4⟩
      unfold tv
      have M4 := Lib.hid (M.out.below hb4)
      clear hb4
      go_wp2_with fail
      obtain ⟨w5, hw5, hM5⟩ : ∃ w5, w4.alloc (.cells #[.int .i64 (tk T m).f0, .string (tk T m).f1, .int .i64 (tk T m).f2, .int .i64 (tk T m).f3] 88) = w5 ∧ Mid T g a c w w2.heap.size m y Ay cy w5 := ⟨_, rfl, M4.out.below (below_alloc (Below.refl _ _) _)⟩
      rw [hw5]
      refine (parse_binds.calls 5 _ _ _ _ 0 _ HM.out.2).mono ?_
      rintro e w6 ⟨rfl, hb6⟩
      have M6 := Lib.hid (hM5.below hb6)
      clear hw5 hM5 hb6 M4 M
      obtain ⟨m0, m1, m2, m3, m4⟩ := M6.out.cells
      obtain ⟨n0, n1, n2, n3, n4⟩ := five_of M6.out.res
      have u0 := blk_frozen M6.out.res 0
      have u1 := blk_frozen M6.out.res 1
      have u2 := blk_frozen M6.out.res 2
      have u3 := blk_frozen M6.out.res 3
      have u4 := blk_frozen M6.out.res 4
      go_wp2_with fail
      have hg := five_set (.int .i64 y.f0) (.string y.f1) (.int .i64 y.f2) (.int .i64 y.f3) (.slice Ay y.f4.length cy) M6.out.res
      clear n0 n1 n2 n3 n4 u0 u1 u2 u3 u4 m0 m1 m2 m3 m4
      exact bodyPost_ret (results_cell_row rfl _ _ w.heap.size 51 _ (0, 0) _ rfl hg Tryz.underlying51 rfl (by kernel_rfl)) rfl (M6.out.res_ Y.out)
    | succ k1 =>
      obtain ⟨hk, hM, hY⟩ : _ ∧ _ ∧ _ := hMM.out.resolve_right (fun e => by omega)
      have M := Lib.hid hM
      have Y := Lib.hid hY
      clear hMM hM hY
      go_wp2_with fail
      refine (now_call M.out.par HJ.out.1).mono ?_
      rintro e w4 ⟨rfl, hb4⟩
      unfold tv
      have M4 := Lib.hid (M.out.below hb4)
      clear hb4
      go_wp2_with fail
      obtain ⟨w5, hw5, hM5, hT5⟩ : ∃ w5, w4.alloc (.cells #[.int .i64 (tk T j).f0, .string (tk T j).f1, .int .i64 (tk T j).f2, .int .i64 (tk T j).f3] 88) = w5 ∧ Mid T g a c w w2.heap.size j y Ay cy w5 ∧ w5.heap[w4.heap.size]? = some (.cells #[.int .i64 (tk T j).f0, .string (tk T j).f1, .int .i64 (tk T j).f2, .int .i64 (tk T j).f3] 88 (0, 0)) := ⟨_, rfl, M4.out.below (below_alloc (Below.refl _ _) _), heap_alloc_new _ _⟩
      rw [hw5]
      refine (parse_binds.calls 5 _ _ _ _ b _ HJ.out.2.2).mono ?_
      rintro e w6 ⟨rfl, hb6⟩
      have M6 := Lib.hid (hM5.below hb6)
      have T6 := Lib.hid ((hb6.block w4.heap.size (Array.getElem?_eq_some_iff.1 hT5).1).trans hT5)
      have g4 : g < w4.heap.size := M4.out.par.lt
      have b4 : w2.heap.size < w4.heap.size := M4.out.blt
      clear hw5 hM5 hb6 hT5 M4 M
      obtain ⟨x0, x1, f0, f1⟩ := two_of M6.out.par.blk
      obtain ⟨w7, hw7, hM7, hT7⟩ : ∃ w7, w6.setCell ⟨g, 1, none⟩ (.int .i64 ((j : Int) + 1)) = w7 ∧ Mid T g a c w w2.heap.size (j + 1) y Ay cy w7 ∧ w7.heap[w4.heap.size]? = some (.cells #[.int .i64 (tk T j).f0, .string (tk T j).f1, .int .i64 (tk T j).f2, .int .i64 (tk T j).f3] 88 (0, 0)) :=
        ⟨_, rfl, M6.out.par' (M6.out.par.set (j + 1)) (Fr.set (c := fun k => k = g) (p := ⟨g, 1, none⟩) rfl _), (Below.heap_setCell _ _ _ _ (by show w4.heap.size ≠ g; omega)).trans T6.out⟩
      have M8 := Lib.hid (hM7.below (Below.refl _ _).drew)
      have T8 := Lib.hid (blk_drew hT7)
      clear hM7 hT7
      go_wp2_with fail
      clear x0 x1 f0 f1 M6 T6 hw7
      obtain ⟨m0, m1, m2, m3, m4⟩ := M8.out.cells
      obtain ⟨t0, t1, t2, t3⟩ := four_of T8.out
      have u0 := blk_frozen M8.out.box 0
      have u1 := blk_frozen M8.out.box 1
      have u2 := blk_frozen M8.out.box 2
      have u3 := blk_frozen M8.out.box 3
      have u4 := blk_frozen M8.out.box 4
      have tl := (Array.getElem?_eq_some_iff.1 T8.out).1
      go_region_with (first | (go_at_call 55; refine (HX.out _ M8.out.par).mono ?_; rintro e w9 ⟨v9, z, rfl, hN9, hS9, hP9, hF9⟩; obtain ⟨A9, c9, rfl, hR9⟩ := hN9; have M9 := Lib.hid (M8.out.par' hP9 hF9); have T9 := Lib.hid ((hF9.block w4.heap.size tl (by omega)).trans T8.out); have Q9 := Lib.hid (And.intro hR9 (And.intro hS9 hF9)); clear hR9 hS9 hP9 hF9; obtain ⟨m5, m6, m7, m8, m9⟩ := M9.out.cells; obtain ⟨t5, t6, t7, t8⟩ := four_of T9.out; have bx := Lib.hid (blk_alloc M9.out.box (.cells #[.int .i64 y.f0, .string y.f1, .int .i64 y.f2, .int .i64 y.f3, .slice Ay y.f4.length cy, .int .i64 z.f0, .string z.f1, .int .i64 z.f2, .int .i64 z.f3, .slice A9 z.f4.length c9] 51)); obtain ⟨q0, q1, q2, q3, q4⟩ := five_of bx.out; have v0 := blk_frozen bx.out 0; have v1 := blk_frozen bx.out 1; have v2 := blk_frozen bx.out 2; have v3 := blk_frozen bx.out 3; have v4 := blk_frozen bx.out 4; have cx_ := Lib.hid (blk_alloc T9.out (.cells #[.int .i64 y.f0, .string y.f1, .int .i64 y.f2, .int .i64 y.f3, .slice Ay y.f4.length cy, .int .i64 z.f0, .string z.f1, .int .i64 z.f2, .int .i64 z.f3, .slice A9 z.f4.length c9] 51)); obtain ⟨s0, s1, s2, s3⟩ := four_of cx_.out))
      all_goals
        go_wp2_with fail
        go_roundg k1
        case measure => omega
        case rel =>
          have hM9 := M9.out
          have hQ := Q9.out
          have hold := hM9.old
          have hb5 := hM9.blt
          have hl9 := (M8.out.blt)
          have hAl := hM9.below (below_alloc (Below.refl _ _) (.cells #[.int .i64 y.f0, .string y.f1, .int .i64 y.f2, .int .i64 y.f3, .slice Ay y.f4.length cy, .int .i64 z.f0, .string z.f1, .int .i64 z.f2, .int .i64 z.f3, .slice A9 z.f4.length c9] 51))
          exact ⟨⟨11, (tk T j).f1, 0, y.f3, [y, z]⟩, some ⟨w9.heap.size, 0, none⟩, 2, Lib.hid (.inr ⟨by omega, hAl.five (z := ⟨11, (tk T j).f1, 0, y.f3, [y, z]⟩) (Az := some ⟨w9.heap.size, 0, none⟩) (cz := 2) (row2 (by omega) (by omega) y z hM9.row (Kd.R_mono (Kd.R_lower (Kd.R_bound hQ.1) (by omega)) (fun k hk => by have := hk.2.1; omega))), rfl, HJ.out.2.1.2.1, rfl, y, z, rfl, Y.out, hQ.2.1⟩)⟩
end Go.Proofs.YtaoippnipcchmaaGreatDoor.PT
