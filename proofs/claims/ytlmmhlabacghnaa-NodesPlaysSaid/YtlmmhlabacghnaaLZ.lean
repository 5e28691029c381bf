/- NodesPlays walked. -/
import Derived.Test.YtlmmhlabacghnaaGG
import Derived.Test.YtlmmhlabacghnaaNM
import Derived.Test.YtlmmhlabacghnaaLY
namespace Go.Proofs.Ytlmmhlabacghnaa.PH
open Go.RowKit Go.Proofs.YtlmmhlabacghnaaW.PrintWords Go.Proofs.YtlmmhlabacghnaaW.PrintLast Go.Proofs.YtlmmhlabacghnaaW.PrintMore
open Go.Proofs.Ytlmmhlabacghnaa.HM
set_option linter.unusedVariables false
set_option linter.unusedSimpArgs false

theorem nv_zero : nv zN = .agg #[.int .i64 0, .int .i64 0, .string (⟨#[]⟩ : ByteArray), .int .i64 0, .int .i64 0, .string (⟨#[]⟩ : ByteArray), .int .i64 0] := rfl
/-- The cells of a node of the reference's dump. -/
theorem at_rn {w : World} {A : Option Addr} {n : Nat} {l : List Nd} (h : Kd.C k89 w A n (l.map rn)) (i : Nat) (h1 : i < n) (h2 : i < l.length) : ∃ ad, A = some ad ∧ w.cell? (ad.add (i * 7)) = some (.int .i64 (nd l i).f0.f0) ∧
    w.cell? ⟨(ad.add (i * 7)).block, (ad.add (i * 7)).off + 1, none⟩ = some (.int .i64 (nd l i).f0.f1) ∧ w.cell? ⟨(ad.add (i * 7)).block, (ad.add (i * 7)).off + 2, none⟩ = some (.string (nd l i).f0.f2) ∧ w.cell? ⟨(ad.add (i * 7)).block, (ad.add (i * 7)).off + 3, none⟩ = some (.int .i64 (nd l i).f1.f0) ∧
    w.cell? ⟨(ad.add (i * 7)).block, (ad.add (i * 7)).off + 4, none⟩ = some (.int .i64 (nd l i).f1.f1) ∧ w.cell? ⟨(ad.add (i * 7)).block, (ad.add (i * 7)).off + 5, none⟩ = some (.string (nd l i).f1.f2) ∧ w.cell? ⟨(ad.add (i * 7)).block, (ad.add (i * 7)).off + 6, none⟩ = some (.int .i64 (nd l i).f2) := by
  obtain ⟨ad, e, q⟩ := at_T89 h (i : Int) (by omega) (by omega)
  rw [rd_rn, Int.toNat_natCast] at q
  have hr : rd_T67 l (i : Int) = nd l i := by unfold rd_T67 nd; rw [Int.toNat_natCast]
  rw [hr] at q
  exact ⟨ad, e, q⟩
set_option maxHeartbeats 8000000 in
set_option maxRecDepth 100000 in
theorem plays_yes (w : World) (n : Nat) (hn : RightN n) (hs : n ≤ 4096) (A : Option Addr) (c : Nat) (ops : List OpD) (hr : Kd.C kO w A ops.length ops) (hc : ops.length ≤ c) :
    Calls Try.prog 20 #[.int .i64 n, .slice A ops.length c] w fun e w' => e = .returned (.bool true) ∧ Below w.heap.size w w' := by
  have HN := Lib.hid hn
  have HR := Lib.hid hr
  have HC := Lib.hid hc
  have hol : ops.length ≤ 9223372036854775807 := hr.2.1
  obtain ⟨r, hrr, hrt⟩ := right_any (s := (n : Int)) (by omega)
  obtain rfl : r = true := hrt.2 hn
  have HRR := Lib.hid hrr
  have e1 : decide ((n : Int) > 4096) = false := decide_eq_false (by omega)
  have e2 : decide (4096 < (n : Int)) = false := decide_eq_false (by omega)
  clear hn hr hc hrr hrt
  go_enter Try.func20, Try.ntmps20
  go_wp2_with fail
  refine (fixed_call w).mono ?_
  rintro e w0 ⟨rfl, hb0⟩
  have B0 := Lib.hid hb0
  clear hb0
  go_wp2_with fail
  refine (trestleref07_Right.calls 18 n true _ HRR.out).mono ?_
  rintro e w1 ⟨rfl, nd1, hw1⟩
  have B1 : RowKit.Hid (Below w.heap.size w w1) := Lib.hid (by rw [hw1]; exact pw_below_drewN B0.out nd1)
  clear hw1 B0
  go_wp2_with fail
  refine (begin_both w1 n HN.out (by omega)).mono ?_
  rintro e w2 ⟨B, g, a, cap, q, bk, bv, bc, rfl, hSt⟩
  have C1 := Lib.hid (Kd.C_below HR.out B1.out)
  have S2 := Lib.hid hSt
  clear hSt
  have hmx : Try.prog.follows .mixedOrders = true := by kernel_rfl
  go_upto_block 0 with (fail)
  go_cut [] (fun wx => ∃ (l : List Nd) (f : Nat) (C : Nat → List Nat), l.length = n ∧ RowKit.Hid (InvC l f C) ∧ RowKit.Hid (Both w1 B g a cap q bk bv bc n n n l f C wx))
  case first =>
    go_wp2_with fail
    go_loopg [12, 13, 14, 15, 16, 17, 18, 19, 20, 21, 22, 23, 24, 25] ops.length (fun kq v12 v13 v14 v15 v16 v17 v18 v19 v20 v21 v22 v23 v24 v25 wr => ∃ (i : Nat) (l : List Nd) (f : Nat) (C : Nat → List Nat), v12 = .int .i64 i ∧ i + kq = ops.length ∧ l.length = n ∧ RowKit.Hid (InvC l f C) ∧ RowKit.Hid (Both w1 B g a cap q bk bv bc n n n l f C wr))
    case atStart => exact ⟨0, _, n, _, rfl, by omega, List.length_replicate, Lib.hid (zeros_invC HN.out), S2⟩
    case round =>
      clear S2
      obtain ⟨i, l, f, C, rfl, hik, hln, hI, hS⟩ := hrel
      have hl4 : (i : Int) ≤ 9223372036854775807 := by omega
      cases gk with
      | zero =>
        have d1 : decide (i < ops.length) = false := decide_eq_false (by omega)
        have d2 : decide ((i : Int) < (ops.length : Int)) = false := decide_eq_false (by omega)
        go_wp2_with fail
        go_meet
        case rel => exact ⟨l, f, C, hln, hI, hS⟩
      | succ k1 =>
        have hlt : i < ops.length := by omega
        have d1 : decide (i < ops.length) = true := decide_eq_true (by omega)
        have d2 : decide ((i : Int) < (ops.length : Int)) = true := decide_eq_true (by omega)
        by_cases h4 : i < 400
        · have d3 : decide ((i : Int) < 400) = true := decide_eq_true (by omega)
          have CO := Kd.C_below C1.out hS.out.st.b
          obtain ⟨ad, hA, o0, o1, o2, o3, o4, o5, o6⟩ := at_op CO i hlt
          have p1 : 0 ≤ (i : Int) := by omega
          have p2 : (i : Int) < (ops.length : Int) := by omega
          replace p1 := eq_true p1
          replace p2 := eq_true p2
          have HH := Lib.hid (And.intro hlt trivial)
          subst hA
          clear hlt CO
          go_upto_block 1 with (fail)
          go_cut [] (fun wx => ∃ (l : List Nd) (f : Nat) (C : Nat → List Nat), l.length = n ∧ RowKit.Hid (InvC l f C) ∧ RowKit.Hid (Both w1 B g a cap q bk bv bc n n n l f C wx))
          case first =>
            go_upto_block 2 with (fail)
            go_cut [] (fun wx => ∃ (l : List Nd) (f : Nat) (C : Nat → List Nat), l.length = n ∧ RowKit.Hid (InvC l f C) ∧ RowKit.Hid (Both w1 B g a cap q bk bv bc n n n l f C wx))
            case first =>
              obtain ⟨w3, hw3, hb3, hM3⟩ : ∃ w3, wr.alloc (.cells #[.int .i64 (od ops i).kind, .int .i64 (od ops i).key.f0, .int .i64 (od ops i).key.f1, .string (od ops i).key.f2, .int .i64 (od ops i).val.f0, .int .i64 (od ops i).val.f1, .string (od ops i).val.f2] 65) = w3 ∧ Below wr.heap.size wr w3 ∧ w3.heap[wr.heap.size]? = some (.cells #[.int .i64 (od ops i).kind, .int .i64 (od ops i).key.f0, .int .i64 (od ops i).key.f1, .string (od ops i).key.f2, .int .i64 (od ops i).val.f0, .int .i64 (od ops i).val.f1, .string (od ops i).val.f2] 65 (0, 0)) := ⟨_, rfl, (Below.refl _ _).alloc (Nat.le_refl _) _, heap_alloc_new _ _⟩
              rw [hw3]
              have S3 := Lib.hid (hS.out.below hb3)
              have M3 := Lib.hid hM3
              have HG := Lib.hid (⟨by have := hS.out.ga; have := hS.out.bw; omega, by have := hS.out.ga; have := hS.out.bw; omega, (Array.getElem?_eq_some_iff.1 hM3).1⟩ : wr.heap.size ≠ g ∧ wr.heap.size ≠ a ∧ wr.heap.size < w3.heap.size)
              clear hw3 hb3 hM3 hS o0 o1 o2 o3 o4 o5 o6
              obtain ⟨m0, m1, m2, m3, m4, m5, m6⟩ := seven_of M3.out
              by_cases hk1 : (od ops i).kind = 1
              · have q1 : ((od ops i).kind == 1) = true := beq_iff_eq.2 hk1
                obtain ⟨l2, f2, C2, at2, r2, x2, hI2, hl2, hF2, hs2, hC⟩ := hI.out.put (od ops i).key (od ops i).val
                have HP := Lib.hid (And.intro hI2 (And.intro hF2 hs2))
                have hl3 : l2.length = n := hl2.trans hln
                have hx := hC _ g a cap _ S3.out.st.p S3.out.st.b.size
                unfold kv at hx
                have HK := Lib.hid hk1
                clear hI2 hF2 hs2 hC hk1 hl2
                obtain ⟨R, hR2⟩ : ∃ R, putR (od ops i).key (od ops i).val r2 = R := ⟨_, rfl⟩
                have HR2 := Lib.hid hR2
                rw [hR2] at hx
                clear hR2
                go_wp2_with fail
                refine hx.mono ?_
                rintro e w4 ⟨rfl, hI4, hF4⟩
                have R4 := Lib.hid (S3.out.rfar hF4)
                have F4 := Lib.hid (And.intro hI4 hF4)
                have M4 := Lib.hid ((hF4.block wr.heap.size HG.out.2.2 (fun e => e.elim HG.out.1 HG.out.2.1)).trans M3.out)
                clear hx hI4 hF4 m0 m1 m2 m3 m4 m5 m6
                obtain ⟨m0, m1, m2, m3, m4, m5, m6⟩ := seven_of M4.out
                go_wp2_with fail
                have hy := rput_call R4.out (Nat.le_trans S3.out.bw F4.out.2.size) hI.out (od ops i).key (od ops i).val HP.out.2.1 HP.out.2.2
                unfold kv at hy
                rw [HR2.out] at hy
                refine hy.mono ?_
                rintro e w5 ⟨rfl, hR5, hb5⟩
                have S5 := Lib.hid (S3.out.put F4.out.1 F4.out.2 hR5 hb5)
                clear hy hR5 hb5 m0 m1 m2 m3 m4 m5 m6
                have b1 : (R != R) = false := bne_self_eq_false _
                have b2 : (x2 != x2) = false := bne_self_eq_false _
                go_wp2_with fail
                go_meet
                case rel => exact ⟨l2, f2, C2, hl3, Lib.hid HP.out.1, S5⟩
              · have q1 : ((od ops i).kind == 1) = false := beq_eq_false_iff_ne.2 hk1
                clear hk1
                by_cases hk2 : (od ops i).kind = 2
                · have q2 : ((od ops i).kind == 2) = true := beq_iff_eq.2 hk2
                  clear hk2
                  obtain ⟨at2, r2, hF⟩ := hI.out.e.find (od ops i).key
                  have HF := Lib.hid hF
                  have hx := get_call S3.out.st.p (od ops i).key at2 r2 hF.c hF.lo
                  obtain ⟨V, hV⟩ : ∃ V, valAt l at2 = V := ⟨_, rfl⟩
                  have HV := Lib.hid hV
                  rw [hV] at hx
                  unfold kv at hx
                  clear hF hV
                  go_wp2_with fail
                  refine hx.mono ?_
                  rintro e w4 ⟨rfl, hb4⟩
                  have S4 := Lib.hid (S3.out.below hb4)
                  have M4 := Lib.hid ((hb4.block wr.heap.size HG.out.2.2).trans M3.out)
                  have GL4 : wr.heap.size < w4.heap.size := Nat.lt_of_lt_of_le HG.out.2.2 hb4.size
                  clear hx hb4 m0 m1 m2 m3 m4 m5 m6
                  obtain ⟨m0, m1, m2, m3, m4, m5, m6⟩ := seven_of (blk_alloc M4.out (.cells #[.int .i64 V.f0, .int .i64 V.f1, .string V.f2] 30))
                  go_wp2_with fail
                  obtain ⟨w5, hw5, hb5, hN5⟩ : ∃ w5, w4.alloc (.cells #[.int .i64 V.f0, .int .i64 V.f1, .string V.f2] 30) = w5 ∧ Below w4.heap.size w4 w5 ∧ w5.heap[w4.heap.size]? = some (.cells #[.int .i64 V.f0, .int .i64 V.f1, .string V.f2] 30 (0, 0)) := ⟨_, rfl, (Below.refl _ _).alloc (Nat.le_refl _) _, heap_alloc_new _ _⟩
                  rw [hw5]
                  have S5 := Lib.hid (S4.out.below hb5)
                  have N5 := Lib.hid hN5
                  have GL5 := Lib.hid (Array.getElem?_eq_some_iff.1 hN5).1
                  have hy := rget_call S5.out.rf hI.out (od ops i).key at2 r2 HF.out.fn HF.out.lo
                  rw [HV.out] at hy
                  unfold kv at hy
                  clear hw5 hb5 hN5 m0 m1 m2 m3 m4 m5 m6
                  refine hy.mono ?_
                  rintro e w6 ⟨rfl, hb6⟩
                  have S6 := Lib.hid (S5.out.below hb6)
                  have N6 := Lib.hid ((hb6.block w4.heap.size GL5.out).trans N5.out)
                  clear hy hb6
                  obtain ⟨n0, n1, n2⟩ := three_of N6.out
                  have na := alloc_cell n0 (.cells #[.int .i64 V.f0, .int .i64 V.f1, .string V.f2] 30)
                  have nb := alloc_cell n1 (.cells #[.int .i64 V.f0, .int .i64 V.f1, .string V.f2] 30)
                  have nc := alloc_cell n2 (.cells #[.int .i64 V.f0, .int .i64 V.f1, .string V.f2] 30)
                  have b1 : (r2 != r2) = false := bne_self_eq_false _
                  go_wp2_with fail
                  go_meet
                  case rel => exact ⟨l, f, C, hln, hI, Lib.hid (S6.out.below (below_alloc (Below.refl _ _) _))⟩
                · have q2 : ((od ops i).kind == 2) = false := beq_eq_false_iff_ne.2 hk2
                  clear hk2
                  by_cases hk3 : (od ops i).kind = 3
                  · have q3 : ((od ops i).kind == 3) = true := beq_iff_eq.2 hk3
                    clear hk3
                    obtain ⟨at2, r2, hF⟩ := hI.out.e.find (od ops i).key
                    have HF := Lib.hid hF
                    have hx := hF.c _ _ _ _ _ _ S3.out.st.p
                    unfold kv at hx
                    clear hF
                    go_wp2_with fail
                    refine hx.mono ?_
                    rintro e w4 ⟨rfl, hb4⟩
                    have S4 := Lib.hid (S3.out.below hb4)
                    have M4 := Lib.hid ((hb4.block wr.heap.size HG.out.2.2).trans M3.out)
                    clear hx hb4 m0 m1 m2 m3 m4 m5 m6
                    obtain ⟨m0, m1, m2, m3, m4, m5, m6⟩ := seven_of M4.out
                    go_wp2_with fail
                    have hy := rfind_call S4.out.rf hI.out (od ops i).key at2 r2 HF.out.fn
                    unfold kv at hy
                    refine hy.mono ?_
                    rintro e w6 ⟨rfl, hb6⟩
                    have S6 := Lib.hid (S4.out.below hb6)
                    clear hy hb6 m0 m1 m2 m3 m4 m5 m6
                    have b1 : (r2 != r2) = false := bne_self_eq_false _
                    have b2 : (at2 != at2) = false := bne_self_eq_false _
                    go_wp2_with fail
                    go_meet
                    case rel => exact ⟨l, f, C, hln, hI, S6⟩
                  · have q3 : ((od ops i).kind == 3) = false := beq_eq_false_iff_ne.2 hk3
                    clear hk3
                    go_wp2_with fail
                    refine (dump_call S3.out.st.p).mono ?_
                    rintro e w4 ⟨v, rfl, hR, hb4⟩
                    obtain ⟨Ad, cd, rfl, hcd, hC4⟩ := Kd.R_reads hR
                    have S4 := Lib.hid (S3.out.below hb4)
                    have D4 := Lib.hid hC4
                    have HD := Lib.hid hcd
                    clear hR hb4 hcd hC4 m0 m1 m2 m3 m4 m5 m6
                    go_wp2_with fail
                    refine (rdump_call S4.out.rf hI.out).mono ?_
                    rintro e w5 ⟨d, rfl, hC5, hb5⟩
                    have S5 := Lib.hid (S4.out.below hb5)
                    have D5 := Lib.hid (Kd.C_below D4.out hb5)
                    have hx := same_call l (by omega) Ad cd (some ⟨d, 0, none⟩) l.length w5 D5.out HD.out hC5 (Nat.le_refl _)
                    rw [hln] at hx
                    clear hC5 hb5 D4 S4
                    go_wp2_with fail
                    refine hx.mono ?_
                    rintro e w6 ⟨rfl, hb6⟩
                    have S6 := Lib.hid (S5.out.below hb6)
                    clear hx hb6
                    go_wp2_with fail
                    go_meet
                    case rel => exact ⟨l, f, C, hln, hI, S6⟩
            case rest =>
              obtain ⟨l2, f2, C2, hl3, hI2, hS2⟩ := hcut
              clear o0 o1 o2 o3 o4 o5 o6 hS
              have S9 := Lib.hid (hS2.out.below (Below.refl _ _).drew)
              obtain ⟨x0, x1, x2, x3, _⟩ := four_of S9.out.rf.blk
              go_wp2_with fail
              have b1 : ((f2 : Int) != (f2 : Int)) = false := bne_self_eq_false _
              have b2 : ((n : Int) != (n : Int)) = false := bne_self_eq_false _
              go_region_with (first | (go_at_call 46; refine (free_call S9.out.st.p).mono ?_; rintro e w8 ⟨rfl, rfl⟩) | (go_at_call 59; refine (size_call S9.out.st.p).mono ?_; rintro e w8 ⟨rfl, rfl⟩))
              all_goals
                go_wp2_with fail
                go_meet
                case rel => exact ⟨l2, f2, C2, hl3, hI2, S9⟩
          case rest =>
            obtain ⟨l2, f2, C2, hl3, hI2, hS2⟩ := hcut
            go_wp2_with fail
            go_roundg k1
            case measure => omega
            case rel => exact ⟨i + 1, l2, f2, C2, by go_num, by omega, hl3, hI2, hS2⟩
        · have d3 : decide ((i : Int) < 400) = false := decide_eq_false (by omega)
          go_wp2_with fail
          go_meet
          case rel => exact ⟨l, f, C, hln, hI, hS⟩
  case rest =>
    obtain ⟨l, f, C, hln, hI, hS⟩ := hcut
    go_wp2_with fail
    refine (rdump_call hS.out.rf hI.out).mono ?_
    rintro e w4 ⟨d, rfl, hC4, hb4⟩
    have S4 := Lib.hid (hS.out.below hb4)
    have D4 := Lib.hid hC4
    clear hC4 hb4 hS
    go_upto_block 3 with (fail)
    go_cut [] (fun wx => RowKit.Hid (Both w1 B g a cap q bk bv bc n n n l f C wx ∧ Kd.C k89 wx (some ⟨d, 0, none⟩) l.length (l.map rn)))
    case first =>
      go_wp2_with fail
      go_loopg [27, 28] (n + 2) (fun kq v27 v28 wr => ∃ (j : Nat) (x : Int), v27 = .int .i64 x ∧ x = (j : Int) - 1 ∧ j + kq = n + 2 ∧ RowKit.Hid (Both w1 B g a cap q bk bv bc n n n l f C wr ∧ Kd.C k89 wr (some ⟨d, 0, none⟩) l.length (l.map rn)))
      case atStart => exact ⟨0, -1, rfl, by omega, by omega, Lib.hid ⟨S4.out, D4.out⟩⟩
      case round =>
        clear S4 D4
        obtain ⟨j, x, rfl, hxj, hjk, hB⟩ := hrel
        cases gk with
        | zero =>
          have d1 : decide (x ≤ (n : Int)) = false := decide_eq_false (by omega)
          go_wp2_with fail
          go_meet
          case rel => exact hB
        | succ k1 =>
          have d1 : decide (x ≤ (n : Int)) = true := decide_eq_true (by omega)
          by_cases h3 : x < 300
          · have d2 : decide (x < 300) = true := decide_eq_true h3
            have HX := Lib.hid (⟨hxj, hjk, h3⟩ : x = (j : Int) - 1 ∧ j + (k1 + 1) = n + 2 ∧ x < 300)
            by_cases hx0 : x = -1
            · subst hx0
              clear hxj hjk h3
              go_wp2_with fail
              refine (at_bad hB.out.1.st.p (-1) (.inl rfl)).mono ?_
              rintro e w5 ⟨rfl, hb5⟩
              have B5 := Lib.hid (⟨hB.out.1.below hb5, Kd.C_below hB.out.2 hb5⟩ : Both w1 B g a cap q bk bv bc n n n l f C w5 ∧ Kd.C k89 w5 (some ⟨d, 0, none⟩) l.length (l.map rn))
              rw [nv_zero]
              clear hb5
              go_wp2_with fail
              go_roundg k1
              case measure => omega
              case rel => exact ⟨j + 1, 0, by go_num, by have := HX.out; omega, by have := HX.out; omega, Lib.hid ⟨B5.out.1.below (below_alloc (Below.refl _ _) _), Kd.C_below B5.out.2 (below_alloc (Below.refl _ _) _)⟩⟩
            · by_cases hxn : x = (n : Int)
              · subst hxn
                have d3 : decide ((n : Int) < 0) = false := decide_eq_false (by omega)
                have d4 : decide ((n : Int) ≥ (n : Int)) = true := decide_eq_true (by omega)
                clear hxj hjk h3
                go_wp2_with fail
                refine (at_bad hB.out.1.st.p (n : Int) (.inr (by rw [hln]))).mono ?_
                rintro e w5 ⟨rfl, hb5⟩
                have B5 := Lib.hid (⟨hB.out.1.below hb5, Kd.C_below hB.out.2 hb5⟩ : Both w1 B g a cap q bk bv bc n n n l f C w5 ∧ Kd.C k89 w5 (some ⟨d, 0, none⟩) l.length (l.map rn))
                rw [nv_zero]
                clear hb5
                go_wp2_with fail
                go_roundg k1
                case measure => omega
                case rel => exact ⟨j + 1, (n : Int) + 1, by go_num, by have := HX.out; omega, by have := HX.out; omega, Lib.hid ⟨B5.out.1.below (below_alloc (Below.refl _ _) _), Kd.C_below B5.out.2 (below_alloc (Below.refl _ _) _)⟩⟩
              · obtain ⟨p, rfl⟩ : ∃ p : Nat, x = p := ⟨x.toNat, by omega⟩
                have hp : p < l.length := by omega
                have d3 : decide ((p : Int) < 0) = false := decide_eq_false (by omega)
                have d4 : decide ((p : Int) ≥ (n : Int)) = false := decide_eq_false (by omega)
                have d7 : decide (p ≤ n) = true := decide_eq_true (by omega)
                have d8 : decide (p < 300) = true := decide_eq_true (by omega)
                have d5 : decide (n ≤ p) = false := decide_eq_false (by omega)
                have d6 : decide ((n : Int) ≤ (p : Int)) = false := decide_eq_false (by omega)
                have hp5 : (p : Int) ≤ 4096 := by omega
                have s1 : 0 ≤ (p : Int) := by omega
                have s2 : (p : Int) < (n : Int) := by omega
                replace s1 := eq_true s1
                replace s2 := eq_true s2
                have HP := Lib.hid hp
                clear hxj hjk h3 hx0 hxn hp
                go_wp2_with fail
                refine (at_call hB.out.1.st.p p HP.out).mono ?_
                rintro e w5 ⟨rfl, hb5⟩
                have B5 := Lib.hid (⟨hB.out.1.below hb5, Kd.C_below hB.out.2 hb5⟩ : Both w1 B g a cap q bk bv bc n n n l f C w5 ∧ Kd.C k89 w5 (some ⟨d, 0, none⟩) l.length (l.map rn))
                unfold nv
                clear hb5
                go_upto_region 44 with (fail)
                obtain ⟨w6, hw6, hb6, hM6⟩ : ∃ w6, w5.alloc (.cells #[.int .i64 (nd l p).f0.f0, .int .i64 (nd l p).f0.f1, .string (nd l p).f0.f2, .int .i64 (nd l p).f1.f0, .int .i64 (nd l p).f1.f1, .string (nd l p).f1.f2, .int .i64 (nd l p).f2] 67) = w6 ∧ Below w5.heap.size w5 w6 ∧ w6.heap[w5.heap.size]? = some (.cells #[.int .i64 (nd l p).f0.f0, .int .i64 (nd l p).f0.f1, .string (nd l p).f0.f2, .int .i64 (nd l p).f1.f0, .int .i64 (nd l p).f1.f1, .string (nd l p).f1.f2, .int .i64 (nd l p).f2] 67 (0, 0)) := ⟨_, rfl, (Below.refl _ _).alloc (Nat.le_refl _) _, heap_alloc_new _ _⟩
                rw [hw6]
                have B6 := Lib.hid (⟨B5.out.1.below hb6, Kd.C_below B5.out.2 hb6⟩ : Both w1 B g a cap q bk bv bc n n n l f C w6 ∧ Kd.C k89 w6 (some ⟨d, 0, none⟩) l.length (l.map rn))
                obtain ⟨m0, m1, m2, m3, m4, m5, m6⟩ := seven_of hM6
                obtain ⟨ad2, hA2, y0, y1, y2, y3, y4, y5, y6⟩ := at_rn B6.out.2 p HP.out HP.out
                obtain rfl := Option.some.inj hA2
                rw [add_blk] at y0 y1 y2 y3 y4 y5 y6
                clear hw6 hb6 hM6 hA2
                go_wp2_with fail
                go_quiet (fail)
                go_wp2_with fail
                go_roundg k1
                case measure => omega
                case rel => exact ⟨j + 1, (p : Int) + 1, by go_num, by have := HX.out; omega, by have := HX.out; omega, Lib.hid ⟨B6.out.1.below (pw_below_drewN (Below.refl _ _) _), Kd.C_below B6.out.2 (pw_below_drewN (Below.refl _ _) _)⟩⟩
          · have d2 : decide (x < 300) = false := decide_eq_false h3
            go_wp2_with fail
            go_meet
            case rel => exact hB
    case rest =>
      have S4 := Lib.hid hcut.out.1
      have D4 := Lib.hid hcut.out.2
      clear hcut
      go_wp2_with fail
      refine (dump_call S4.out.st.p).mono ?_
      rintro e w5 ⟨v, rfl, hR, hb5⟩
      obtain ⟨Ad, cd, rfl, hcd, hC5⟩ := Kd.R_reads hR
      have S5 := Lib.hid (S4.out.below hb5)
      have hx := same_call l (by omega) Ad cd (some ⟨d, 0, none⟩) l.length w5 hC5 hcd (Kd.C_below D4.out hb5) (Nat.le_refl _)
      rw [hln] at hx
      clear hR hb5 hcd hC5
      go_wp2_with fail
      refine hx.mono ?_
      rintro e w6 ⟨rfl, hb6⟩
      have S6 := Lib.hid (S5.out.below hb6)
      clear hx hb6
      go_wp2_with fail
      go_ret
      exact ⟨rfl, B1.out.trans (S6.out.st.b.mono B1.out.size)⟩
set_option maxHeartbeats 8000000 in
set_option maxRecDepth 100000 in
theorem plays_no (w : World) (s : Int) (hs : -9223372036854775808 ≤ s ∧ s ≤ 9223372036854775807) (h : ¬ (RightN s ∧ s ≤ 4096)) (A : Option Addr) (c n : Nat) :
    Calls Try.prog 20 #[.int .i64 s, .slice A n c] w fun e w' => e = .returned (.bool true) ∧ Below w.heap.size w w' := by
  obtain ⟨r, hr, hrt⟩ := right_any hs
  cases r with
  | false =>
    have HB := Lib.hid (fun e => Bool.false_ne_true (hrt.2 e) : ¬ RightN s)
    have HS := Lib.hid hs
    have HR := Lib.hid hr
    clear h hs hr hrt
    go_enter Try.func20, Try.ntmps20
    go_wp2_with fail
    refine (fixed_call w).mono ?_
    rintro e w1 ⟨rfl, hb1⟩
    have B1 := Lib.hid hb1
    clear hb1
    go_wp2_with fail
    refine (trestleref07_Right.calls 18 s false _ HR.out).mono ?_
    rintro e w2 ⟨rfl, nd2, hw2⟩
    have B2 : RowKit.Hid (Below w.heap.size w w2) := Lib.hid (by rw [hw2]; exact pw_below_drewN B1.out nd2)
    clear hw2 B1
    go_wp2_with fail
    refine (new_bad w2 s HS.out HB.out).mono ?_
    rintro e w3 ⟨rfl, hb3⟩
    have B3 := Lib.hid (B2.out.trans (hb3.mono B2.out.size))
    clear hb3 B2
    go_wp2_with fail
    refine (trestleref03_I.calls 1 2 1 ⟨#[]⟩ _ rfl).mono ?_
    rintro e w4 ⟨rfl, hb4⟩
    have B4 := Lib.hid (B3.out.trans (hb4.mono B3.out.size))
    clear hb4 B3
    go_wp2_with fail
    refine (trestleref03_I.calls 1 2 1 ⟨#[]⟩ _ rfl).mono ?_
    rintro e w5 ⟨rfl, hb5⟩
    have B5 := Lib.hid (B4.out.trans (hb5.mono B4.out.size))
    clear hb5 B4
    go_wp2_with fail
    have hx := put_nil w5 ⟨2, 1, ⟨#[]⟩⟩ ⟨2, 1, ⟨#[]⟩⟩ (by decide +kernel) (by decide +kernel) (by decide) (by decide)
    unfold kv at hx
    refine hx.mono ?_
    rintro e w6 ⟨rfl, hb6⟩
    have B6 := Lib.hid (B5.out.trans (hb6.mono B5.out.size))
    clear hx hb6 B5
    go_wp2_with fail
    refine (size_nil _).mono ?_
    rintro e w7 ⟨rfl, rfl⟩
    go_wp2_with fail
    refine (free_nil _).mono ?_
    rintro e w8 ⟨rfl, rfl⟩
    go_wp2_with fail
    refine (dump_nil _).mono ?_
    rintro e w9 ⟨rfl, rfl⟩
    go_wp2_with fail
    go_ret
    exact ⟨rfl, B6.out⟩
  | true =>
    have h2 : 4096 < s := by
      by_cases h4 : s ≤ 4096
      · exact absurd ⟨hrt.1 rfl, h4⟩ h
      · omega
    have d1 : decide (s > 4096) = true := decide_eq_true (by omega)
    have d2 : decide (4096 < s) = true := decide_eq_true (by omega)
    have HR := Lib.hid hr
    clear h hs hr hrt h2
    go_enter Try.func20, Try.ntmps20
    go_wp2_with fail
    refine (fixed_call w).mono ?_
    rintro e w1 ⟨rfl, hb1⟩
    have B1 := Lib.hid hb1
    clear hb1
    go_wp2_with fail
    refine (trestleref07_Right.calls 18 s true _ HR.out).mono ?_
    rintro e w2 ⟨rfl, nd2, hw2⟩
    have B2 : RowKit.Hid (Below w.heap.size w w2) := Lib.hid (by rw [hw2]; exact pw_below_drewN B1.out nd2)
    clear hw2 B1
    go_wp2_with fail
    go_ret
    exact ⟨rfl, B2.out⟩
theorem nodesPlays_any (w : World) (s : Int) (hs : -9223372036854775808 ≤ s ∧ s ≤ 9223372036854775807) (A : Option Addr) (c : Nat) (ops : List OpD) (hr : Kd.C kO w A ops.length ops) (hc : ops.length ≤ c) :
    Calls Try.prog 20 #[.int .i64 s, .slice A ops.length c] w fun e w' => e = .returned (.bool true) ∧ Below w.heap.size w w' := by
  by_cases h : RightN s ∧ s ≤ 4096
  · obtain ⟨h1, h2⟩ := h
    have h0 : 0 ≤ s := by
      rcases h1 with e | e
      · omega
      · have := pow_range e; omega
    obtain ⟨k, rfl⟩ : ∃ k : Nat, s = k := ⟨s.toNat, by omega⟩
    exact plays_yes w k h1 (by omega) A c ops hr hc
  · exact plays_no w s hs h A c ops.length
end Go.Proofs.Ytlmmhlabacghnaa.PH
