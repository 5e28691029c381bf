/- nodes: the reference's Put: a node of the same chain stands at the main position. -/
import Derived.Test.YtlmmhlabacghnaaGF
import Derived.Deep.CutBlock
import Derived.Deep.RegionHeld3
import Derived.BigRegion
namespace Go.Proofs.Ytlmmhlabacghnaa.PH
open Go.RowKit Go.Proofs.YtlmmhlabacghnaaW.PrintWords Go.Proofs.YtlmmhlabacghnaaW.PrintLast Go.Proofs.YtlmmhlabacghnaaW.PrintMore
open Go.Proofs.Ytlmmhlabacghnaa.HM
set_option linter.unusedVariables false
set_option linter.unusedSimpArgs false

theorem below_grown {W0 W w1 : World} {row : Option Nat} (hb : Below W0.heap.size W0 W) (hg : W.grownBy w1 row) (hr : ∀ k, row = some k → W0.heap.size ≤ k) : Below W0.heap.size W0 w1 :=
  hb.trans ⟨hg.os, hg.tape, hg.output, hg.size, fun k hk => hg.block k (Nat.lt_of_lt_of_le hk hb.size) (fun e => by have := hr k e.symm; omega)⟩
theorem info_int : (Try.prog.info? 3).map (fun i => (i.zero, i.size, i.bytes)) = some (some (.int .i64 0), 1, 8) := by kernel_rfl
theorem kd_set (xs : List Ky) (i : Nat) (x : Ky) (j : Nat) (h : i ≠ j) : kd (xs.set i x) j = kd xs j := by
  unfold kd
  rw [List.getD_eq_getElem?_getD, List.getD_eq_getElem?_getD, List.getElem?_set_ne h]
set_option maxHeartbeats 8000000 in
set_option maxRecDepth 100000 in
theorem rput_c {B q bk bv bc ck cv cc : Nat} {l : List Nd} {f : Nat} {C : Nat → List Nat} {w : World} (h : IsR B q bk bv bc ck cv cc l f C w) (hB : B ≤ w.heap.size) (hI : InvC l f C) (k v : Ky) (hk : okB k.f0 k.f1 k.f2 = true) (hv : okB v.f0 v.f1 v.f2 = true) (hk0 : ¬ k.f0 = 0) (at_ r : Int) (hf : fndR l k = (at_, r)) (ha : at_ = -1) (hv0 : ¬ v.f0 = 0) (hV : Inv l f C) (m : Nat) (hm : hp l.length k = m) (hz : ¬ (nd l m).f0.f0 = 0) (fi : Nat) (hr : roomL l f = ((fi : Int), fi)) (hff : fi < f) (hfm : fi ≠ m) (ho : hp l.length (nd l m).f0 = m) (t : List Nat) (hC : C m = m :: t) (xx yy : Int) :
    Calls Try.prog 55 #[.pointer (some ⟨q, 0, none⟩), kv k, kv v] w fun x w' => x = .returned (.tuple #[.int .i64 r, .int .i64 0]) ∧ IsR B q bk bv bc ck cv cc ((l.set fi ⟨k, v, xx⟩).set m ⟨(nd l m).f0, (nd l m).f1, yy⟩) fi (fun j => if j = m then m :: fi :: t else C j) w' ∧ Below B w w' := by
  unfold kv
  have H := Lib.hid (And.intro h (And.intro hB (And.intro hI hf)))
  have HK := Lib.hid (And.intro hk hv)
  have hk1 : (k.f0 == 0) = false := beq_eq_false_iff_ne.2 hk0
  have hlen := h.len
  have hlt := h.toL.lt
  have hI0 := Lib.hid hI
  clear h hB hI hf hk hv hk0
  subst ha
  have hml : m < l.length := hm ▸ hp_lt hV.pow k
  have hsm := hV.small
  have HV := Lib.hid (And.intro hv0 (And.intro hV (And.intro hm hml)))
  have hm5 : (m : Int) ≤ 65536 := by omega
  have p1 : 0 ≤ (m : Int) := by omega
  have p2 : (m : Int) < (l.length : Int) := by omega
  replace p1 := eq_true p1
  replace p2 := eq_true p2
  have d0 : decide ((l.length : Int) = 0) = false := decide_eq_false (by omega)
  have d1 : ((l.length : Int) == 0) = false := beq_eq_false_iff_ne.2 (by omega)
  clear hv0 hV hm hml
  have HZ := Lib.hid hz
  have hfi5 : (fi : Int) ≤ 65536 := by have := hI0.out.fle; omega
  have hfil : fi < l.length := by have := hI0.out.fle; omega
  have HRM := Lib.hid (And.intro hr (And.intro hff (And.intro hfm hfil)))
  have HOM := Lib.hid ho
  have HCM := Lib.hid hC
  clear hz hr hff hfm ho hC hfil
  go_enter Try.func55, Try.ntmps55
  go_wp2_with fail
  obtain ⟨w2, hw2, hb2, hk2, hv2, hs2⟩ : ∃ w2, (w.alloc (.cells #[.int .i64 k.f0, .int .i64 k.f1, .string k.f2] 30)).alloc (.cells #[.int .i64 v.f0, .int .i64 v.f1, .string v.f2] 30) = w2 ∧ Below w.heap.size w w2 ∧
      w2.heap[w.heap.size]? = some (.cells #[.int .i64 k.f0, .int .i64 k.f1, .string k.f2] 30 (0, 0)) ∧ w2.heap[w.heap.size + 1]? = some (.cells #[.int .i64 v.f0, .int .i64 v.f1, .string v.f2] 30 (0, 0)) ∧ w2.heap.size = w.heap.size + 2 :=
    ⟨_, rfl, ((Below.refl _ _).alloc (Nat.le_refl _) _).alloc (by simp) _, (Below.heap_alloc _ _ _ (by simp)).trans (heap_alloc_new _ _), by have := heap_alloc_new (w.alloc (.cells #[.int .i64 k.f0, .int .i64 k.f1, .string k.f2] 30)) (.cells #[.int .i64 v.f0, .int .i64 v.f1, .string v.f2] 30); simpa using this, by simp⟩
  rw [hw2]
  refine (trestleref03_Check.calls k.f0 k.f1 k.f2 0 w2 (by unfold trestleref03_Check.f okN; rw [if_pos HK.out.1])).mono ?_
  rintro r1 w3 ⟨rfl, hb3⟩
  have K3 := Lib.hid ((hb3.block w.heap.size (by omega)).trans hk2)
  have V3 := Lib.hid ((hb3.block (w.heap.size + 1) (by omega)).trans hv2)
  have B3 := Lib.hid (hb2.trans (hb3.mono (by omega)))
  have S3 : w.heap.size + 2 ≤ w3.heap.size := by have := hb3.size; omega
  clear hw2 hb2 hk2 hv2 hs2 hb3
  obtain ⟨v0, v1, v2⟩ := three_of V3.out
  go_wp2_with fail
  refine (trestleref03_Check.calls v.f0 v.f1 v.f2 0 w3 (by unfold trestleref03_Check.f okN; rw [if_pos HK.out.2])).mono ?_
  rintro r1 w4 ⟨rfl, hb4⟩
  have K4 := Lib.hid ((hb4.block w.heap.size (by omega)).trans K3.out)
  have V4 := Lib.hid ((hb4.block (w.heap.size + 1) (by omega)).trans V3.out)
  have B4 := Lib.hid (B3.out.trans (hb4.mono (by omega)))
  have S4 : w.heap.size + 2 ≤ w4.heap.size := by have := hb4.size; omega
  clear v0 v1 v2 hb4
  obtain ⟨k0, k1, k2⟩ := three_of K4.out
  go_wp2_with fail
  have hx := rfind_call (H.out.1.below B4.out) H.out.2.2.1 k _ _ H.out.2.2.2
  unfold kv at hx
  refine hx.mono ?_
  rintro r1 w5 ⟨rfl, hb5⟩
  have K5 := Lib.hid ((hb5.block w.heap.size (by omega)).trans K4.out)
  have V5 := Lib.hid ((hb5.block (w.heap.size + 1) (by omega)).trans V4.out)
  have B5 := Lib.hid (B4.out.trans (hb5.mono (by omega)))
  have S5 : w.heap.size + 2 ≤ w5.heap.size := by have := hb5.size; omega
  have R5 := Lib.hid (H.out.1.below B5.out)
  clear k0 k1 k2 hb5 hx
  obtain ⟨k0, k1, k2⟩ := three_of K5.out
  obtain ⟨v0, v1, v2⟩ := three_of V5.out
  have hmx : Try.prog.follows .mixedOrders = true := by kernel_rfl
  have hvb : (v.f0 == 0) = false := beq_eq_false_iff_ne.2 HV.out.1
  obtain ⟨x0, x1, x2, x3, _⟩ := four_of R5.out.blk
  have hx := place_call k l.length HV.out.2.1.pow ⟨HK.out.1, beq_eq_false_iff_ne.1 hk1⟩ w5.drew
  unfold kv at hx
  rw [HV.out.2.2.1] at hx
  go_wp2_with fail
  go_still_tail 6, (by kernel_rfl)
  change wpList _ _ _ _ _ w5.drew
  go_wp2_with fail
  refine hx.mono ?_
  rintro r1 w6 ⟨rfl, hb6⟩
  have hb56 := (Below.refl w5.heap.size w5).drew.trans hb6
  have B6 := Lib.hid (B5.out.trans (hb56.mono B5.out.size))
  have R6 := Lib.hid (R5.out.below hb56)
  have K6 := Lib.hid ((hb56.block w.heap.size (by omega)).trans K5.out)
  have V6 := Lib.hid ((hb56.block (w.heap.size + 1) (by omega)).trans V5.out)
  have S6 : w.heap.size + 2 ≤ w6.heap.size := by have := hb56.size; omega
  clear hx hb6 hb56 x0 x1 x2 x3 k0 k1 k2 v0 v1 v2 R5 K5 V5 B5 B4 B3 K4 K3 V4 V3
  obtain ⟨x0, x1, x2, x3, x4⟩ := four_of R6.out.blk
  obtain ⟨e0, e1, e2⟩ := R6.out.key m HV.out.2.2.2
  have hz1 : ((nd l m).f0.f0 == 0) = false := beq_eq_false_iff_ne.2 HZ.out
  have hfl := H.out.2.2.1.fle
  have hff5 : (f : Int) ≤ 65536 := by omega
  go_upto_block 0 with (fail)
  go_cut [11] (fun v11 wx => v11 = .int .i64 (roomL l f).1 ∧ RowKit.Hid (IsR B q bk bv bc ck cv cc l (roomL l f).2 C wx) ∧ RowKit.Hid (Below B w wx) ∧ RowKit.Hid (wx.heap[w.heap.size]? = some (.cells #[.int .i64 k.f0, .int .i64 k.f1, .string k.f2] 30 (0, 0))) ∧ RowKit.Hid (wx.heap[w.heap.size + 1]? = some (.cells #[.int .i64 v.f0, .int .i64 v.f1, .string v.f2] 30 (0, 0))) ∧ w.heap.size + 2 ≤ wx.heap.size)
  case first =>
    have B6' := Lib.hid (B6.out.mono H.out.2.1)
    clear x0 x1 x2 x3 x4 e0 e1 e2
    go_wp2_with fail
    go_loopg [11] (f + 1) (fun kq v11 wx => ∃ (g : Nat) (x : Int), v11 = .int .i64 x ∧ g ≤ f ∧ RowKit.Hid ((x = -1 ∧ roomL l g = roomL l f ∧ kq = g + 1) ∨ (x = g ∧ roomL l f = ((g : Int), g) ∧ kq = 0)) ∧ RowKit.Hid (IsR B q bk bv bc ck cv cc l g C wx) ∧ RowKit.Hid (Below B w wx) ∧ RowKit.Hid (wx.heap[w.heap.size]? = some (.cells #[.int .i64 k.f0, .int .i64 k.f1, .string k.f2] 30 (0, 0))) ∧ RowKit.Hid (wx.heap[w.heap.size + 1]? = some (.cells #[.int .i64 v.f0, .int .i64 v.f1, .string v.f2] 30 (0, 0))) ∧ w.heap.size + 2 ≤ wx.heap.size)
    case atStart => exact ⟨f, -1, rfl, Nat.le_refl _, Lib.hid (.inl ⟨rfl, rfl, rfl⟩), R6, B6', K6, V6, S6⟩
    case round =>
      clear R6 B6' K6 V6 S6
      obtain ⟨g, x, rfl, hgf, hph, hR, hB6, hK, hV, hS⟩ := hrel
      obtain ⟨x0, x1, x2, x3, x4⟩ := four_of hR.out.blk
      rcases hph.out with ⟨rfl, hr, hkq⟩ | ⟨rfl, hr, hkq⟩
      · have HR := Lib.hid (And.intro hr hkq)
        have c1 : decide ((-1 : Int) < 0) = true := by decide
        clear hr hkq hph
        cases g with
        | zero =>
          go_wp2_with fail
          go_meet
          case rel => exact ⟨by rw [← HR.out.1]; rfl, Lib.hid (by rw [← HR.out.1]; exact hR.out), hB6, hK, hV, hS⟩
        | succ g' =>
          have c2 : decide (((g' + 1 : Nat) : Int) > 0) = true := decide_eq_true (by omega)
          have c3 : decide (0 < ((g' + 1 : Nat) : Int)) = true := decide_eq_true (by omega)
          have c4 : decide (0 < (g' : Int) + 1) = true := decide_eq_true (by omega)
          have hg5 : (g' : Int) ≤ 65536 := by omega
          have hgl : g' < l.length := by omega
          have HG := Lib.hid (And.intro hgl hgf)
          clear hgf hgl
          obtain ⟨w7, hw7⟩ : ∃ w7, wr.setCell ⟨q, 3, none⟩ (.int .i64 (g' : Int)) = w7 := ⟨_, rfl⟩
          have R7 : RowKit.Hid (IsR B q bk bv bc ck cv cc l (g' : Nat) C w7) := Lib.hid (by rw [← hw7]; exact (hR.out.toL.setF (g' : Int)).toR rfl rfl rfl rfl hlen)
          have B7 : RowKit.Hid (Below B w w7) := Lib.hid (by rw [← hw7]; exact hB6.out.setCell (p := ⟨q, 3, none⟩) hR.out.bq _)
          have K7 : RowKit.Hid (w7.heap[w.heap.size]? = some (.cells #[.int .i64 k.f0, .int .i64 k.f1, .string k.f2] 30 (0, 0))) := Lib.hid (by rw [← hw7, Below.heap_setCell _ _ _ _ (by show w.heap.size ≠ q; omega)]; exact hK.out)
          have V7 : RowKit.Hid (w7.heap[w.heap.size + 1]? = some (.cells #[.int .i64 v.f0, .int .i64 v.f1, .string v.f2] 30 (0, 0))) := Lib.hid (by rw [← hw7, Below.heap_setCell _ _ _ _ (by show w.heap.size + 1 ≠ q; omega)]; exact hV.out)
          have S7 : w.heap.size + 2 ≤ w7.heap.size := by rw [← hw7]; simp [World.setCell]; exact hS
          have HW7 := Lib.hid hw7
          have t1 : 0 ≤ (g' : Int) := by omega
          have t2 : (g' : Int) < (l.length : Int) := by have := HG.out.1; omega
          replace t1 := eq_true t1
          replace t2 := eq_true t2
          clear hw7
          go_upto_region 21 with (fail)
          rw [HW7.out]
          clear x0 x1 x2 x3 x4
          obtain ⟨x0, x1, x2, x3, x4⟩ := four_of R7.out.blk
          obtain ⟨e0, e1, e2⟩ := R7.out.key g' HG.out.1
          have hr1 : (if (nd l g').f0.f0 = 0 then ((g' : Int), g') else roomL l g') = roomL l f := HR.out.1
          by_cases hz : (nd l g').f0.f0 = 0
          · rw [if_pos hz] at hr1
            rw [hz] at e0
            have HR1 := Lib.hid hr1
            clear hr1 hz
            go_quiet (fail)
            have R8 := Lib.hid (R7.out.below (pw_below_drewN (Below.refl _ _) nq))
            obtain ⟨y0, y1, y2, y3, y4⟩ := four_of R8.out.blk
            go_wp2_with fail
            go_roundg 0
            case measure => have := HR.out.2; omega
            case rel => exact ⟨g', (g' : Int), rfl, by have := HG.out.2; omega, Lib.hid (.inr ⟨rfl, HR1.out.symm, rfl⟩), R8, Lib.hid (pw_below_drewN B7.out _), Lib.hid (blk_drewN K7.out _), Lib.hid (blk_drewN V7.out _), S7⟩
          · rw [if_neg hz] at hr1
            have hzb : ((nd l g').f0.f0 == 0) = false := beq_eq_false_iff_ne.2 hz
            have HR1 := Lib.hid hr1
            clear hr1 hz
            go_quiet (fail)
            go_wp2_with fail
            go_roundg (g' + 1)
            case measure => have := HR.out.2; omega
            case rel => exact ⟨g', -1, rfl, by have := HG.out.2; omega, Lib.hid (.inl ⟨rfl, HR1.out, rfl⟩), Lib.hid (R7.out.below (pw_below_drewN (Below.refl _ _) _)), Lib.hid (pw_below_drewN B7.out _), Lib.hid (blk_drewN K7.out _), Lib.hid (blk_drewN V7.out _), S7⟩
      · have HR := Lib.hid (And.intro hr hkq)
        have c1 : decide ((g : Int) < 0) = false := decide_eq_false (by omega)
        clear hr hkq hph
        go_wp2_with fail
        go_meet
        case rel => exact ⟨by rw [HR.out.1], Lib.hid (by rw [HR.out.1]; exact hR.out), hB6, hK, hV, hS⟩
  case rest =>
    obtain ⟨rfl, hR7, hB7, hK7, hV7, S7⟩ := hcut
    clear R6 K6 V6 S6 B6 x0 x1 x2 x3 x4 e0 e1 e2
    rw [HRM.out.1] at hR7 ⊢
    have c1 : decide ((fi : Int) < 0) = false := decide_eq_false (by omega)
    obtain ⟨x0, x1, x2, x3, x4⟩ := four_of hR7.out.blk
    obtain ⟨e0, e1, e2⟩ := hR7.out.key m HV.out.2.2.2
    have hx := place_call (nd l m).f0 l.length HV.out.2.1.pow (HV.out.2.1.key HV.out.2.2.2 HZ.out) wc.drew
    unfold kv at hx
    rw [HOM.out] at hx
    go_wp2_with fail
    go_still_tail 12, (by kernel_rfl)
    change wpList _ _ _ _ _ wc.drew
    go_wp2_with fail
    refine hx.mono ?_
    rintro r1 w8 ⟨rfl, hb8⟩
    have hb78 := (Below.refl wc.heap.size wc).drew.trans hb8
    have hBz : B ≤ wc.heap.size := by have := hR7.out.toL.ge; have := hR7.out.toL.lt; omega
    have B8 := Lib.hid (hB7.out.trans (hb78.mono hBz))
    have R8 := Lib.hid (hR7.out.below hb78)
    have K8 := Lib.hid ((hb78.block w.heap.size (by omega)).trans hK7.out)
    have V8 := Lib.hid ((hb78.block (w.heap.size + 1) (by omega)).trans hV7.out)
    have S8 : w.heap.size + 2 ≤ w8.heap.size := by have := hb78.size; omega
    clear hx hb8 hb78 hBz x0 x1 x2 x3 x4 e0 e1 e2 hR7 hB7 hK7 hV7 S7
    have o1 : ((m : Int) == (m : Int)) = true := beq_self_eq_true _
    have o2 : decide ((m : Int) = (m : Int)) = true := decide_eq_true rfl
    obtain ⟨x0, x1, x2, x3, x4⟩ := four_of R8.out.blk
    have hbz8 : B ≤ w8.heap.size := by have := R8.out.toL.ge; have := R8.out.toL.lt; omega
    have hrow := rowI2 w8 hbz8 (m : Int) (fi : Int)
    have HRW := Lib.hid hrow
    have hlenC : (C m).length = t.length + 1 := by rw [HCM.out]; rfl
    have hclen := H.out.2.2.1.clen m
    have HLC := Lib.hid hlenC
    have ht5 : (t.length : Int) ≤ 65536 := by omega
    have hcl5 : ((C m).length : Int) ≤ 65536 := by omega
    have HBZ := Lib.hid hbz8
    clear hrow hlenC hclen hbz8
    go_upto_block 2 with (fail)
    have Bz := Lib.hid (below_alloc (Below.refl w8.heap.size w8) (.cells #[.int .i64 (m : Int), .int .i64 (fi : Int)] 3))
    clear x0 x1 x2 x3 x4
    go_wp2_with fail
    go_loopg [13, 14] t.length (fun kq v13 v14 wr => ∃ (i j : Nat) (xs : List Int), v14 = .int .i64 i ∧ i = j + 1 ∧ j + kq = t.length ∧ RowKit.Hid (xs = (m :: fi :: t.take j).map (fun x : Nat => (x : Int))) ∧ RowKit.Hid (Kd.R (Kd.int .i64) 3 wr B (fun b => w8.heap.size ≤ b) v13 xs) ∧ RowKit.Hid (Below w8.heap.size w8 wr))
    case atStart => exact ⟨1, 0, [(m : Int), (fi : Int)], rfl, rfl, by omega, Lib.hid rfl, HRW, Bz⟩
    case round =>
      clear HRW Bz
      obtain ⟨i, j, xs, rfl, hij, hjt, hxs, hrow, hb⟩ := hrel
      have hRr := R8.out.below hb.out
      obtain ⟨x0, x1, x2, x3, x4⟩ := four_of hRr.blk
      obtain ⟨Ac, cx, c0, hCc⟩ := hRr.chain m HV.out.2.2.2
      have hlc := HLC.out
      have HIJ := Lib.hid (And.intro hij hjt)
      have hi5 : (i : Int) ≤ 65536 := by omega
      obtain ⟨A13, c13, rfl⟩ := Kd.R_slice hrow.out
      cases gk with
      | zero =>
        have d2_ : decide (i < (C m).length) = false := decide_eq_false (by omega)
        have d3_ : decide ((i : Int) < ((C m).length : Int)) = false := decide_eq_false (by omega)
        have htk : t.take j = t := List.take_of_length_le (by omega)
        have hxs2 := hxs.out
        rw [htk] at hxs2
        have HXS := Lib.hid hxs2
        clear htk hxs2 hlc hij hjt hRr hCc
        go_wp2_with (refine IsRL.storeC R8.out.toL hb.out rfl rfl (.tmp 178) (.tmp 177) rfl m HV.out.2.2.2 _ _ hrow.out rfl rfl ?_)
        intro w10 h10 hb10 hfr10
        have hwr : w8.heap.size ≤ wr.heap.size := hb.out.size
        have IL := Lib.hid h10
        have B10 := Lib.hid ((B8.out.trans (hb.out.mono HBZ.out)).trans hb10)
        have K10 := Lib.hid ((hfr10 w.heap.size (by omega) (by omega)).trans ((hb.out.block w.heap.size (by omega)).trans K8.out))
        have V10 := Lib.hid ((hfr10 (w.heap.size + 1) (by omega) (by omega)).trans ((hb.out.block (w.heap.size + 1) (by omega)).trans V8.out))
        clear h10 hb10 hfr10 hwr x0 x1 x2 x3 x4 c0
        have ne1 := IL.out.n1
        have ne2 := IL.out.n2
        have ne3 := IL.out.n3
        have ne4 : w.heap.size ≠ bk := by omega
        have ne5 : w.heap.size ≠ bv := by omega
        have ne6 : w.heap.size + 1 ≠ bk := by omega
        have ne7 : w.heap.size + 1 ≠ bv := by omega
        have hfil := HRM.out.2.2.2
        have f0_ := IL.out.kfree (fi * 3)
        have f1_ := IL.out.kfree (fi * 3 + 1)
        have f2_ := IL.out.kfree (fi * 3 + 2)
        have g0_ := IL.out.vfree (fi * 3)
        have g1_ := IL.out.vfree (fi * 3 + 1)
        have g2_ := IL.out.vfree (fi * 3 + 2)
        have t1 : 0 ≤ (fi : Int) := by omega
        have t2 : (fi : Int) < (l.length : Int) := by omega
        replace t1 := eq_true t1
        replace t2 := eq_true t2
        obtain ⟨x0, x1, x2, x3, x4⟩ := four_of IL.out.blk
        obtain ⟨z0, z1, z2⟩ := IL.out.key fi hfil
        obtain ⟨y0, y1, y2⟩ := IL.out.val fi hfil
        obtain ⟨k0, k1, k2⟩ := three_of K10.out
        obtain ⟨v0, v1, v2⟩ := three_of V10.out
        clear hfil
        go_wp2_with fail
        go_region_held3 (fun w' => w'.cell? ⟨q, 0, none⟩ = some (.slice (some ⟨bk, 0, none⟩) l.length ck) ∧ w'.cell? ⟨q, 1, none⟩ = some (.slice (some ⟨bv, 0, none⟩) l.length cv) ∧ w'.cell? ⟨w.heap.size, 0, none⟩ = some (.int .i64 k.f0) ∧ w'.cell? ⟨w.heap.size, 1, none⟩ = some (.int .i64 k.f1) ∧ w'.cell? ⟨w.heap.size, 2, none⟩ = some (.string k.f2) ∧
          w'.cell? ⟨w.heap.size + 1, 0, none⟩ = some (.int .i64 v.f0) ∧ w'.cell? ⟨w.heap.size + 1, 1, none⟩ = some (.int .i64 v.f1) ∧ w'.cell? ⟨w.heap.size + 1, 2, none⟩ = some (.string v.f2))
          (first | with_reducible exact ⟨far3d ne1 x0, far3d ne1 x1, far3d ne4 k0, far3d ne4 k1, far3d ne4 k2, far3d ne6 v0, far3d ne6 v1, far3d ne6 v2⟩ | with_reducible exact ⟨far3d ne2 x0, far3d ne2 x1, far3d ne5 k0, far3d ne5 k1, far3d ne5 k2, far3d ne7 v0, far3d ne7 v1, far3d ne7 v2⟩ | with_reducible exact ⟨far3d ne2 (far3 ne1 x0), far3d ne2 (far3 ne1 x1), far3d ne5 (far3 ne4 k0), far3d ne5 (far3 ne4 k1), far3d ne5 (far3 ne4 k2), far3d ne7 (far3 ne6 v0), far3d ne7 (far3 ne6 v1), far3d ne7 (far3 ne6 v2)⟩ | with_reducible exact ⟨far3d ne1 (far3 ne2 x0), far3d ne1 (far3 ne2 x1), far3d ne4 (far3 ne5 k0), far3d ne4 (far3 ne5 k1), far3d ne4 (far3 ne5 k2), far3d ne6 (far3 ne7 v0), far3d ne6 (far3 ne7 v1), far3d ne6 (far3 ne7 v2)⟩ | go_keep)
          (fail)
        all_goals
          go_wp2_with fail
          go_ret2
          have hge := IL.out.ge
          have hBw := B10.out
          have hL := IL.out
          have hkk : ksOf ((l.set fi ⟨k, v, xx⟩).set m ⟨(nd l m).f0, (nd l m).f1, yy⟩) = (ksOf l).set fi k := by
            rw [ksOf_set, ksOf_set]
            have h1 := set_kd ((ksOf l).set fi k) m (by rw [List.length_set, ksOf_len]; exact HV.out.2.2.2)
            rw [kd_set _ _ _ _ HRM.out.2.2.1, kd_ks] at h1
            exact h1
          have hvv : vsOf ((l.set fi ⟨k, v, xx⟩).set m ⟨(nd l m).f0, (nd l m).f1, yy⟩) = (vsOf l).set fi v := by
            rw [vsOf_set, vsOf_set]
            have h1 := set_kd ((vsOf l).set fi v) m (by rw [List.length_set, vsOf_len]; exact HV.out.2.2.2)
            rw [kd_set _ _ _ _ HRM.out.2.2.1, kd_vs] at h1
            exact h1
          have hll : l.length = ((l.set fi (⟨k, v, xx⟩ : Nd)).set m (⟨(nd l m).f0, (nd l m).f1, yy⟩ : Nd)).length := by rw [List.length_set, List.length_set]
          have hcc : (csOf l.length C).set m xs = csOf ((l.set fi (⟨k, v, xx⟩ : Nd)).set m (⟨(nd l m).f0, (nd l m).f1, yy⟩ : Nd)).length (fun j => if j = m then m :: fi :: t else C j) := by
            rw [← hll, HXS.out]
            exact csOf_set l.length C m (m :: fi :: t) HV.out.2.2.2
          first
            | exact ⟨rfl, (((hL.setK fi HRM.out.2.2.2 k).setV fi HRM.out.2.2.2 v).below (Below.refl _ _).drew).toR hll hkk.symm hvv.symm hcc (by rw [← hll]; exact hlen), (below3 (below3 hBw hge.2.1 _ _ _) hge.2.2.1 _ _ _).drew⟩
            | exact ⟨rfl, (((hL.setV fi HRM.out.2.2.2 v).setK fi HRM.out.2.2.2 k).below (Below.refl _ _).drew).toR hll hkk.symm hvv.symm hcc (by rw [← hll]; exact hlen), (below3 (below3 hBw hge.2.2.1 _ _ _) hge.2.1 _ _ _).drew⟩
      | succ k1 =>
        have d2_ : decide (i < (C m).length) = true := decide_eq_true (by omega)
        have d3_ : decide ((i : Int) < ((C m).length : Int)) = true := decide_eq_true (by omega)
        have t1 : 0 ≤ (i : Int) := by omega
        have t2 : (i : Int) < ((C m).length : Int) := by omega
        replace t1 := eq_true t1
        replace t2 := eq_true t2
        obtain ⟨ad, hA, c1_⟩ := at_int hCc i (by omega)
        subst hA
        obtain ⟨p, hp⟩ : ∃ p, (C m).getD i 0 = p := ⟨_, rfl⟩
        rw [hp] at c1_
        have hpt : t.take (j + 1) = t.take j ++ [p] := by
          have hjl : j < t.length := by omega
          rw [List.take_succ_eq_append_getElem hjl]
          rw [HCM.out, hij, List.getD_eq_getElem?_getD, List.getElem?_cons_succ, List.getElem?_eq_getElem hjl] at hp
          rw [← hp]
          rfl
        have HPT := Lib.hid hpt
        have hrl : xs.length ≤ 65540 := by rw [hxs.out]; simp; omega
        have HRL := Lib.hid hrl
        clear hlc hij hjt hRr hCc hp hpt hrl
        go_wp2_with (first | ((with_reducible refine gate_builtin (b := .append) (xs := #[.tmp 159, .tmp 170]) rfl ?_); at_builtin; refine Kd.R_append (Kd.int .i64) (w0 := wr) (W := wr) B rfl (.tmp 159) (.tmp 170) 49 3 (.int .i64 0) 8 rfl Try.underlying49 info_int rfl (by decide) (by decide) _ _ (p : Int) [.int .i64 (p : Int)] (fun b => w8.heap.size ≤ b) (fun _ => False) rfl rfl rfl (fun _ hk => hk.elim) (fun b hb3 => Nat.le_trans hb.out.size hb3) hrow.out (Below.refl _ _) (Nat.le_trans HBZ.out hb.out.size) (by have := HRL.out; omega) ?_))
        intro v1 w10 hR10 hB10 hg10 hat10
        have G10 := Lib.hid (below_grown hb.out hg10 (fun b hb3 => hrow.out.1 b hb3))
        have R10 := Lib.hid hR10
        clear hR10 hB10 hg10 hat10
        go_wp2_with fail
        go_roundg k1
        case measure => omega
        case rel => exact ⟨i + 1, j + 1, xs ++ [(p : Int)], by go_num, by have := HIJ.out; omega, by have := HIJ.out; omega, Lib.hid (by rw [HPT.out, hxs.out]; simp), R10, G10⟩
end Go.Proofs.Ytlmmhlabacghnaa.PH
