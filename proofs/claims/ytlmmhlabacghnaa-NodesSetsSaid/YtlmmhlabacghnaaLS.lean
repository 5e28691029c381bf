/- NodesSets walked. -/
import Derived.Test.YtlmmhlabacghnaaNK
import Derived.Deep.CutBlock
namespace Go.Proofs.Ytlmmhlabacghnaa.PH
open Go.RowKit Go.Proofs.YtlmmhlabacghnaaW.PrintWords Go.Proofs.YtlmmhlabacghnaaW.PrintLast Go.Proofs.YtlmmhlabacghnaaW.PrintMore
open Go.Proofs.Ytlmmhlabacghnaa.HM
set_option linter.unusedVariables false
set_option linter.unusedSimpArgs false

set_option maxHeartbeats 8000000 in
set_option maxRecDepth 100000 in
theorem sets_yes (w : World) (n : Nat) (hn : RightN n) (hs : n ≤ 512) (A : Option Addr) (c : Nat) (ops : List OpD) (hr : Kd.C kO w A ops.length ops) (hc : ops.length ≤ c) (v : Ky) :
    Calls Try.prog 19 #[.int .i64 n, .slice A ops.length c, kv v] w fun e w' => e = .returned (.bool true) ∧ Below w.heap.size w w' := by
  unfold kv
  have HN := Lib.hid hn
  have HR := Lib.hid hr
  have HC := Lib.hid hc
  have hol : ops.length ≤ 9223372036854775807 := hr.2.1
  have e1 : decide ((n : Int) > 512) = false := decide_eq_false (by omega)
  have e2 : decide (512 < (n : Int)) = false := decide_eq_false (by omega)
  clear hn hr hc
  go_enter Try.func19, Try.ntmps19
  go_wp2_with fail
  obtain ⟨wb, hwb, hbb, hNb, hsb⟩ : ∃ wb, w.alloc (.cells #[.int .i64 v.f0, .int .i64 v.f1, .string v.f2] 30) = wb ∧ Below w.heap.size w wb ∧ wb.heap[w.heap.size]? = some (.cells #[.int .i64 v.f0, .int .i64 v.f1, .string v.f2] 30 (0, 0)) ∧ wb.heap.size = w.heap.size + 1 :=
    ⟨_, rfl, (Below.refl _ _).alloc (Nat.le_refl _) _, heap_alloc_new _ _, by simp⟩
  rw [hwb]
  refine (fixed_call wb).mono ?_
  rintro e w1 ⟨rfl, hb1⟩
  have B1 := Lib.hid (hbb.trans (hb1.mono (by omega)))
  have N1 := Lib.hid ((hb1.block w.heap.size (by omega)).trans hNb)
  have Z1 : w.heap.size + 1 ≤ w1.heap.size := by have := hb1.size; omega
  clear hb1 hwb hbb hNb hsb
  go_wp2_with fail
  refine (begin_yes w1 n HN.out (by omega)).mono ?_
  rintro e w2 ⟨g, a, cap, q, rfl, hSt⟩
  have S2 := Lib.hid (hSt.lower B1.out)
  have N2 := Lib.hid ((hSt.b.block w.heap.size (by omega)).trans N1.out)
  have hga : w.heap.size < g ∧ w.heap.size < a := ⟨by have := hSt.g; omega, by have := hSt.p.base; omega⟩
  have GA := Lib.hid hga
  clear hSt Z1 hga
  have hmx : Try.prog.follows .mixedOrders = true := by kernel_rfl
  obtain ⟨n0, n1, n2⟩ := three_of N2.out
  go_wp2_with fail
  refine (trestleref03_Check.calls v.f0 v.f1 v.f2 _ w2 rfl).mono ?_
  rintro e w3 ⟨rfl, hb3⟩
  have S3 := Lib.hid (S2.out.below hb3)
  have N3 := Lib.hid ((hb3.block w.heap.size (by have := S2.out.lt; have := GA.out; omega)).trans N2.out)
  clear n0 n1 n2 hb3 S2 N2
  go_upto_if 52 with (fail)
  go_cut [] (fun wx => ∃ V : Ky, okB V.f0 V.f1 V.f2 = true ∧ RowKit.Hid (St w g a cap (List.replicate n zN) n wx) ∧ RowKit.Hid (wx.heap[w.heap.size]? = some (.cells #[.int .i64 V.f0, .int .i64 V.f1, .string V.f2] 30 (0, 0))))
  case first =>
    by_cases hv : okB v.f0 v.f1 v.f2 = true
    · have hk : okN v.f0 v.f1 v.f2 = 0 := by unfold okN; rw [if_pos hv]
      rw [hk]
      have HV := Lib.hid hv
      clear hk hv
      go_wp2_with fail
      go_meet
      case rel => exact ⟨v, HV.out, S3, N3⟩
    · have hk : okN v.f0 v.f1 v.f2 = 2 := by unfold okN; rw [if_neg hv]
      rw [hk]
      clear hk hv
      go_wp2_with fail
      refine (trestleref03_I.calls 3 2 3 ⟨#[]⟩ _ rfl).mono ?_
      rintro e w4 ⟨rfl, hb4⟩
      have hlt : w.heap.size < w3.heap.size := by have := S3.out.lt; have := GA.out; omega
      have S4 := Lib.hid (S3.out.below hb4)
      have N4 := Lib.hid ((hb4.block w.heap.size hlt).trans N3.out)
      have u0 := blk_frozen N4.out 0
      have u1 := blk_frozen N4.out 1
      have u2 := blk_frozen N4.out 2
      obtain ⟨x0, x1, x2⟩ := three_of N4.out
      clear hlt hb4
      go_wp2_with fail
      go_meet
      case rel =>
        have hg := GA.out
        refine ⟨kI 3, by decide +kernel, Lib.hid ?_, Lib.hid ?_⟩
        · refine ((S4.out.far (p := ⟨w.heap.size, 0, none⟩) (Nat.le_refl _) ?_ ?_ _).far (p := ⟨w.heap.size, 1, none⟩) (Nat.le_refl _) ?_ ?_ _).far (p := ⟨w.heap.size, 2, none⟩) (Nat.le_refl _) ?_ ?_ _ <;> (simp only; omega)
        · refine blk_put (cs := #[.int .i64 2, .int .i64 3, .string v.f2]) ?_ 2 _ rfl
          refine blk_put (cs := #[.int .i64 2, .int .i64 v.f1, .string v.f2]) ?_ 1 _ rfl
          exact blk_put (cs := #[.int .i64 v.f0, .int .i64 v.f1, .string v.f2]) N4.out 0 _ rfl
  case rest =>
    obtain ⟨V, hV, hS, hN⟩ := hcut
    have HV := Lib.hid hV
    clear hV S3 N3
    go_wp2_with fail
    go_loopg [10, 11, 12, 13, 14, 15, 16, 17, 18, 19] ops.length (fun kq v10 v11 v12 v13 v14 v15 v16 v17 v18 v19 wr => ∃ (i : Nat) (l : List Nd) (f : Nat), v10 = .int .i64 i ∧ i + kq = ops.length ∧ l.length = n ∧ RowKit.Hid (InvE l f) ∧ RowKit.Hid (St w g a cap l f wr) ∧ RowKit.Hid (wr.heap[w.heap.size]? = some (.cells #[.int .i64 V.f0, .int .i64 V.f1, .string V.f2] 30 (0, 0))))
    case atStart => exact ⟨0, _, n, rfl, by omega, List.length_replicate, Lib.hid (zeros_inv HN.out), hS, hN⟩
    case round =>
      clear hS hN
      obtain ⟨i, l, f, rfl, hik, hln, hI, hS, hN⟩ := hrel
      have hl4 : (i : Int) ≤ 9223372036854775807 := by omega
      cases gk with
      | zero =>
        have d1 : decide (i < ops.length) = false := decide_eq_false (by omega)
        have d2 : decide ((i : Int) < (ops.length : Int)) = false := decide_eq_false (by omega)
        go_wp2_with fail
        go_ret
        exact ⟨rfl, hS.out.b⟩
      | succ k1 =>
        have hlt : i < ops.length := by omega
        have d1 : decide (i < ops.length) = true := decide_eq_true (by omega)
        have d2 : decide ((i : Int) < (ops.length : Int)) = true := decide_eq_true (by omega)
        by_cases h4 : i < 60
        · have d3 : decide ((i : Int) < 60) = true := decide_eq_true (by omega)
          obtain ⟨ad, hA, o0, o1, o2, o3, o4, o5, o6⟩ := at_op (St_C hS.out HR.out) i hlt
          have p1 : 0 ≤ (i : Int) := by omega
          have p2 : (i : Int) < (ops.length : Int) := by omega
          replace p1 := eq_true p1
          replace p2 := eq_true p2
          have HH := Lib.hid (And.intro hlt (And.intro hik hA))
          subst hA
          clear hlt hik
          go_wp2_with fail
          go_still_tail 11, (by kernel_rfl)
          change wpList _ _ _ _ _ wr.drew
          obtain ⟨l2, f2, at2, r2, x2, hP, hC⟩ := hI.out.put (od ops i).key (od ops i).val
          have S3 := Lib.hid (hS.out.below (Below.refl _ _).drew)
          have hx := hC _ g a cap _ S3.out.p S3.out.b.size
          unfold kv at hx
          go_wp2_with fail
          refine hx.mono ?_
          rintro e w4 ⟨rfl, hI4, hF4⟩
          have S4 := Lib.hid (S3.out.put hI4 hF4)
          have hgw : w.heap.size < wr.heap.size := by have := hS.out.lt; have := GA.out; omega
          have N4 := Lib.hid ((hF4.block w.heap.size hgw (by have := GA.out; omega)).trans hN.out)
          have I2 := Lib.hid hP.inv
          have hl2 := Lib.hid (hP.len.trans hln)
          clear hx hC hI4 hF4 hP o0 o1 o2 o3 o4 o5 o6 S3 hS hI hN hgw hln
          go_wp2_with fail
          refine (dump_call S4.out.p).mono ?_
          rintro e w5 ⟨v5, rfl, hR, hb5⟩
          obtain ⟨Ad, cd, rfl, hcd, hC5⟩ := Kd.R_reads hR
          have D5 := Lib.hid (DR.of hR S4.out.lt)
          have S5 := Lib.hid (S4.out.below hb5)
          have N5 := Lib.hid ((hb5.block w.heap.size (by have := S4.out.lt; have := GA.out; omega)).trans N4.out)
          obtain ⟨ad2, hA, o0, o1, o2, o3, o4, o5, o6⟩ := at_op (St_C S5.out HR.out) i HH.out.1
          obtain rfl := Option.some.inj hA
          obtain ⟨at_, rd, hF⟩ := I2.out.find (od ops i).key
          have HF := Lib.hid hF
          clear hA hR hb5 hC5 hcd S4 N4 hF
          go_wp2_with fail
          have hx := HF.out.c _ _ _ _ _ _ S5.out.p
          unfold kv at hx
          refine hx.mono ?_
          rintro e w6 ⟨rfl, hb6⟩
          have S6 := Lib.hid (S5.out.below hb6)
          have N6 := Lib.hid ((hb6.block w.heap.size (by have := S5.out.lt; have := GA.out; omega)).trans N5.out)
          have D6 := Lib.hid (D5.out.below hb6)
          clear hb6 hx S5 N5 D5 o0 o1 o2 o3 o4 o5 o6
          obtain ⟨n0, n1, n2⟩ := three_of N6.out
          go_upto_if 90 with (fail)
          go_cut [] (fun wx => ∃ W : Ky, RowKit.Hid ((at_ < 0 ∧ W = z30) ∨ (0 ≤ at_ ∧ W = V)) ∧ w6.alloc (.cells #[.int .i64 W.f0, .int .i64 W.f1, .string W.f2] 30) = wx)
          case first =>
            by_cases ha : at_ < 0
            · have q1 : decide (at_ < 0) = true := decide_eq_true ha
              have HA := Lib.hid ha
              go_wp2_with fail
              go_meet
              case rel => exact ⟨_, Lib.hid (.inl ⟨HA.out, rfl⟩), rfl⟩
            · have q1 : decide (at_ < 0) = false := decide_eq_false ha
              have HA := Lib.hid ha
              go_wp2_with fail
              go_meet
              case rel => exact ⟨_, Lib.hid (.inr ⟨by have := HA.out; omega, rfl⟩), rfl⟩
          case rest =>
            obtain ⟨W, HW, hw7⟩ := hcut
            have S7 : RowKit.Hid (St w g a cap l2 f2 wc) := Lib.hid (by rw [← hw7]; exact S6.out.below ((Below.refl _ _).alloc (Nat.le_refl _) _))
            have N7 : RowKit.Hid (wc.heap[w.heap.size]? = some (.cells #[.int .i64 V.f0, .int .i64 V.f1, .string V.f2] 30 (0, 0))) := Lib.hid (by rw [← hw7]; exact blk_alloc N6.out _)
            have D7 : RowKit.Hid (DR g a wc (.slice Ad l2.length cd) l2) := Lib.hid (by rw [← hw7]; exact D6.out.below (below_alloc (Below.refl _ _) _))
            have M7 : RowKit.Hid (wc.heap[w6.heap.size]? = some (.cells #[.int .i64 W.f0, .int .i64 W.f1, .string W.f2] 30 (0, 0))) := Lib.hid (by rw [← hw7]; exact heap_alloc_new _ _)
            obtain ⟨ad3, hA, o0, o1, o2, o3, o4, o5, o6⟩ := at_op (St_C S7.out HR.out) i HH.out.1
            obtain rfl := Option.some.inj hA
            obtain ⟨m0, m1, m2⟩ := three_of M7.out
            clear hA hw7 S6 N6 D6 n0 n1 n2
            go_upto_region 17 with (fail)
            go_cut [15, 16] (fun v15 v16 wx => ∃ (l3 : List Nd) (f3 : Nat) (at3 r3 x3 : Int), v15 = .int .i64 (putR (od ops i).key W r3) ∧ v16 = .int .i64 x3 ∧ RowKit.Hid (PutP l2 f2 (od ops i).key W l3 f3 at3 r3 x3) ∧ RowKit.Hid (St w g a cap l3 f3 wx) ∧
              RowKit.Hid (wx.heap[w.heap.size]? = some (.cells #[.int .i64 V.f0, .int .i64 V.f1, .string V.f2] 30 (0, 0))) ∧ RowKit.Hid (DR g a wx (.slice Ad l2.length cd) l2))
            case first =>
              obtain ⟨l3, f3, at3, r3, x3, hP, hC⟩ := I2.out.put (od ops i).key W
              have S8 := Lib.hid (S7.out.below (Below.refl _ _).drew)
              have hx := hC _ g a cap _ S8.out.p S8.out.b.size
              unfold kv at hx
              go_region_with (go_at_call 47; refine hx.mono ?_; rintro e w8 ⟨rfl, hI8, hF8⟩)
              all_goals
                have S9 := Lib.hid (S8.out.put hI8 hF8)
                have hgw : w.heap.size < wc.heap.size := by have := S7.out.lt; have := GA.out; omega
                have N9 := Lib.hid ((hF8.block w.heap.size hgw (by have := GA.out; omega)).trans N7.out)
                have D9 := Lib.hid ((D7.out.below (Below.refl _ _).drew).fr hF8)
                have P9 := Lib.hid hP
                clear hI8 hF8 hx hC hP
                go_wp2_with fail
                go_meet
                case rel => exact ⟨l3, f3, at3, r3, x3, rfl, rfl, P9, S9, N9, D9⟩
            case rest =>
              obtain ⟨l3, f3, at3, r3, x3, rfl, rfl, hP, hS, hN, hD⟩ := hcut
              clear S7 N7 D7 M7 o0 o1 o2 o3 o4 o5 o6 m0 m1 m2
              go_wp2_with fail
              refine (dump_call hS.out.p).mono ?_
              rintro e w9 ⟨v9, rfl, hR, hb9⟩
              obtain ⟨Ab, cb, rfl, hcb, hC9⟩ := Kd.R_reads hR
              have E9 := Lib.hid hC9
              have S9 := Lib.hid (hS.out.below hb9)
              have N9 := Lib.hid ((hb9.block w.heap.size (by have := hS.out.lt; have := GA.out; omega)).trans hN.out)
              have D9 := Lib.hid (hD.out.below hb9)
              have hl3 : l3.length = l2.length := hP.out.len
              have HL3 := Lib.hid hl3
              have b1 : (l3.length != l2.length) = false := by rw [hl3]; exact bne_self_eq_false _
              have b2 : ((l3.length : Int) != (l2.length : Int)) = false := by rw [hl3]; exact bne_self_eq_false _
              have b3 : (l3.length == l2.length) = true := by rw [hl3]; exact beq_self_eq_true _
              clear hR hb9 hC9 hcb hS hN hD hl3
              go_upto_region 19 with (fail)
              go_cut [118] (fun v118 wx => v118 = .bool false ∧ wx = w9)
              case first =>
                by_cases hx : x3 = 0
                · have hr := (hP.out.reads hx HF.out).1
                  have b4 : (x3 == 0) = true := beq_iff_eq.2 hx
                  have b5 : (putR (od ops i).key W r3 == rd) = true := beq_iff_eq.2 hr
                  have b6 : (putR (od ops i).key W r3 != rd) = false := by rw [hr]; exact bne_self_eq_false _
                  clear hr hx
                  go_wp2_with fail
                  go_meet
                  case rel => exact ⟨rfl, rfl⟩
                · have b4 : (x3 == 0) = false := beq_eq_false_iff_ne.2 hx
                  clear hx
                  go_wp2_with fail
                  go_meet
                  case rel => exact ⟨rfl, rfl⟩
              case rest =>
                obtain ⟨rfl, rfl⟩ := hcut
                have hl6 : l2.length ≤ 65536 := by have := I2.out.small; omega
                go_wp2_with fail
                go_loopg [18, 19] l2.length (fun kq v18 v19 wr => ∃ j : Nat, v18 = .int .i64 j ∧ j + kq = l2.length ∧ RowKit.Hid (St w g a cap l3 f3 wr) ∧ RowKit.Hid (DR g a wr (.slice Ad l2.length cd) l2) ∧ RowKit.Hid (Kd.C k67 wr Ab l3.length l3) ∧
                  RowKit.Hid (wr.heap[w.heap.size]? = some (.cells #[.int .i64 V.f0, .int .i64 V.f1, .string V.f2] 30 (0, 0))))
                case atStart => exact ⟨0, rfl, by omega, S9, D9, E9, N9⟩
                case round =>
                  clear S9 D9 E9 N9
                  obtain ⟨j, rfl, hj, hS, hD, hE, hN⟩ := hrel
                  cases gk with
                  | zero =>
                    have d4 : decide (j < l2.length) = false := decide_eq_false (by omega)
                    have d5 : decide ((j : Int) < (l2.length : Int)) = false := decide_eq_false (by omega)
                    clear b1 b2 b3
                    go_wp2_with fail
                    go_roundg k1
                    case measure => omega
                    case rel => exact ⟨i + 1, l3, f3, by go_num, by have := HH.out.2.1; omega, HL3.out.trans hl2.out, Lib.hid hP.out.inv, hS, hN⟩
                  | succ k2 =>
                    have d4 : decide (j < l2.length) = true := decide_eq_true (by omega)
                    have d5 : decide ((j : Int) < (l2.length : Int)) = true := decide_eq_true (by omega)
                    have hjl : j < l2.length := by omega
                    have hj3 : j < l3.length := by have := HL3.out; omega
                    have hset := hP.out.sets HF.out HV.out HW.out j hjl
                    have hj5 : (j : Int) ≤ 65536 := by omega
                    have s1 : 0 ≤ (j : Int) := by omega
                    have s2 : (j : Int) < (l2.length : Int) := by omega
                    have s3 : (j : Int) < (l3.length : Int) := by omega
                    replace s1 := eq_true s1
                    replace s2 := eq_true s2
                    replace s3 := eq_true s3
                    obtain ⟨add, hA, o0, o1, o2, o3, o4, o5, o6⟩ := at_nd hD.out.reads.2 j hjl
                    subst hA
                    have HJ := Lib.hid (And.intro hj hset)
                    clear b1 b2 b3 hj hset hjl
                    go_upto_if 131 with (fail)
                    go_cut [] (fun wx => wr.alloc (.cells #[.int .i64 (nd l3 j).f0.f0, .int .i64 (nd l3 j).f0.f1, .string (nd l3 j).f0.f2, .int .i64 (nd l3 j).f1.f0, .int .i64 (nd l3 j).f1.f1, .string (nd l3 j).f1.f2, .int .i64 (nd l3 j).f2] 67) = wx)
                    case first =>
                      by_cases hja : (j : Int) = at_
                      · have q1 : ((j : Int) == at_) = true := beq_iff_eq.2 hja
                        have hset := HJ.out.2
                        rw [if_pos hja] at hset
                        have HS := Lib.hid hset
                        obtain ⟨n0, n1, n2⟩ := three_of hN.out
                        have na := alloc_cell n0 (.cells #[.int .i64 (nd l2 j).f0.f0, .int .i64 (nd l2 j).f0.f1, .string (nd l2 j).f0.f2, .int .i64 (nd l2 j).f1.f0, .int .i64 (nd l2 j).f1.f1, .string (nd l2 j).f1.f2, .int .i64 (nd l2 j).f2] 67)
                        have nb := alloc_cell n1 (.cells #[.int .i64 (nd l2 j).f0.f0, .int .i64 (nd l2 j).f0.f1, .string (nd l2 j).f0.f2, .int .i64 (nd l2 j).f1.f0, .int .i64 (nd l2 j).f1.f1, .string (nd l2 j).f1.f2, .int .i64 (nd l2 j).f2] 67)
                        have nc := alloc_cell n2 (.cells #[.int .i64 (nd l2 j).f0.f0, .int .i64 (nd l2 j).f0.f1, .string (nd l2 j).f0.f2, .int .i64 (nd l2 j).f1.f0, .int .i64 (nd l2 j).f1.f1, .string (nd l2 j).f1.f2, .int .i64 (nd l2 j).f2] 67)
                        clear hja hset
                        go_wp2_with fail
                        go_meet
                        case rel => rw [HS.out]
                      · have q1 : ((j : Int) == at_) = false := beq_eq_false_iff_ne.2 hja
                        have hset := HJ.out.2
                        rw [if_neg hja] at hset
                        have HS := Lib.hid hset
                        clear hja hset
                        go_wp2_with fail
                        go_meet
                        case rel => rw [HS.out]
                    case rest =>
                      have hwx := hcut
                      have S10 : RowKit.Hid (St w g a cap l3 f3 wc) := Lib.hid (by rw [← hwx]; exact hS.out.below ((Below.refl _ _).alloc (Nat.le_refl _) _))
                      have N10 : RowKit.Hid (wc.heap[w.heap.size]? = some (.cells #[.int .i64 V.f0, .int .i64 V.f1, .string V.f2] 30 (0, 0))) := Lib.hid (by rw [← hwx]; exact blk_alloc hN.out _)
                      have D10 : RowKit.Hid (DR g a wc (.slice (some add) l2.length cd) l2) := Lib.hid (by rw [← hwx]; exact hD.out.below (below_alloc (Below.refl _ _) _))
                      have E10 : RowKit.Hid (Kd.C k67 wc Ab l3.length l3) := Lib.hid (by rw [← hwx]; exact Kd.C_below hE.out (below_alloc (Below.refl _ _) _))
                      have M10 : wc.heap[wr.heap.size]? = some (.cells #[.int .i64 (nd l3 j).f0.f0, .int .i64 (nd l3 j).f0.f1, .string (nd l3 j).f0.f2, .int .i64 (nd l3 j).f1.f0, .int .i64 (nd l3 j).f1.f1, .string (nd l3 j).f1.f2, .int .i64 (nd l3 j).f2] 67 (0, 0)) := by rw [← hwx]; exact heap_alloc_new _ _
                      obtain ⟨m0, m1, m2, m3, m4, m5, m6⟩ := seven_of M10
                      obtain ⟨ae, hA, r0, r1, r2, r3, r4, r5, r6⟩ := at_nd E10.out j hj3
                      subst hA
                      clear hwx hcut M10 hS hN hD hE o0 o1 o2 o3 o4 o5 o6 hj3
                      go_wp2_with fail
                      go_quiet (fail)
                      go_wp2_with fail
                      go_roundg k2
                      case measure => omega
                      case rel => exact ⟨j + 1, by go_num, by have := HJ.out.1; omega, Lib.hid (S10.out.below (pw_below_drewN (Below.refl _ _) _)), Lib.hid (D10.out.below (pw_below_drewN (Below.refl _ _) _)), Lib.hid (Kd.C_below E10.out (pw_below_drewN (Below.refl _ _) _)), Lib.hid (blk_drewN N10.out _)⟩
        · have d3 : decide ((i : Int) < 60) = false := decide_eq_false (by omega)
          go_wp2_with fail
          go_ret
          exact ⟨rfl, hS.out.b⟩
set_option maxHeartbeats 8000000 in
set_option maxRecDepth 100000 in
theorem sets_no (w : World) (s : Int) (hs : -9223372036854775808 ≤ s ∧ s ≤ 9223372036854775807) (h : ¬ (RightN s ∧ s ≤ 512)) (A : Option Addr) (c n : Nat) (v : Ky) :
    Calls Try.prog 19 #[.int .i64 s, .slice A n c, kv v] w fun e w' => e = .returned (.bool true) ∧ Below w.heap.size w w' := by
  unfold kv
  by_cases hb : ¬ RightN s ∨ 4096 < s
  · have HB := Lib.hid hb
    have HH := Lib.hid h
    rcases (show s < 0 ∨ 512 < s ∨ (0 ≤ s ∧ s ≤ 512) by omega) with h0 | h0 | h0
    all_goals
      have HS := Lib.hid hs
      have H0 := Lib.hid h0
      clear h hb hs
    · have a1 : decide (s < 0) = true := decide_eq_true h0
      clear h0
      go_enter Try.func19, Try.ntmps19
      go_wp2_with fail
      refine (fixed_call _).mono ?_
      rintro e w1 ⟨rfl, hb1⟩
      have B1 := Lib.hid ((below_alloc (Below.refl w.heap.size w) _).trans (hb1.mono (by simp)))
      clear hb1
      go_wp2_with fail
      refine (begin_no w1 s HS.out HB.out).mono ?_
      rintro e w2 ⟨rfl, hb2⟩
      have B2 := Lib.hid (B1.out.trans (hb2.mono B1.out.size))
      clear hb2
      go_wp2_with fail
      go_ret
      exact ⟨rfl, B2.out⟩
    · have a1 : decide (s < 0) = false := decide_eq_false (by omega)
      have a2 : decide (s > 512) = true := decide_eq_true (by omega)
      have a3 : decide (512 < s) = true := decide_eq_true (by omega)
      clear h0
      go_enter Try.func19, Try.ntmps19
      go_wp2_with fail
      refine (fixed_call _).mono ?_
      rintro e w1 ⟨rfl, hb1⟩
      have B1 := Lib.hid ((below_alloc (Below.refl w.heap.size w) _).trans (hb1.mono (by simp)))
      clear hb1
      go_wp2_with fail
      refine (begin_no w1 s HS.out HB.out).mono ?_
      rintro e w2 ⟨rfl, hb2⟩
      have B2 := Lib.hid (B1.out.trans (hb2.mono B1.out.size))
      clear hb2
      go_wp2_with fail
      go_ret
      exact ⟨rfl, B2.out⟩
    · have a1 : decide (s < 0) = false := decide_eq_false (by omega)
      have a2 : decide (s > 512) = false := decide_eq_false (by omega)
      have a3 : decide (512 < s) = false := decide_eq_false (by omega)
      have a4 : Go.bits .and .i64 s (s - 1) ≠ 0 := bits_wrong (fun e => HH.out ⟨e, by omega⟩) (by omega)
      have a5 : (Go.bits .and .i64 s (s - 1) != 0) = true := bne_iff_ne.2 a4
      clear a4
      go_enter Try.func19, Try.ntmps19
      go_wp2_with fail
      refine (fixed_call _).mono ?_
      rintro e w1 ⟨rfl, hb1⟩
      have B1 := Lib.hid ((below_alloc (Below.refl w.heap.size w) _).trans (hb1.mono (by simp)))
      clear hb1
      go_wp2_with fail
      refine (begin_no w1 s HS.out HB.out).mono ?_
      rintro e w2 ⟨rfl, hb2⟩
      have B2 := Lib.hid (B1.out.trans (hb2.mono B1.out.size))
      clear hb2
      go_wp2_with fail
      go_ret
      exact ⟨rfl, B2.out⟩
  · have hR : RightN s := Classical.byContradiction fun e => hb (.inl e)
    have h4 : s ≤ 4096 := by omega
    have h5 : 512 < s := by
      by_cases h6 : s ≤ 512
      · exact absurd ⟨hR, h6⟩ h
      · omega
    obtain ⟨k, rfl⟩ : ∃ k : Nat, s = k := ⟨s.toNat, by omega⟩
    have HR := Lib.hid (And.intro hR h4)
    have a2 : decide ((k : Int) > 512) = true := decide_eq_true (by omega)
    have a3 : decide (512 < (k : Int)) = true := decide_eq_true (by omega)
    have hk : (k : Int) ≤ 65536 := by omega
    clear hb hR h4 h5 h hs
    go_enter Try.func19, Try.ntmps19
    go_wp2_with fail
    refine (fixed_call _).mono ?_
    rintro e w1 ⟨rfl, hb1⟩
    have B1 := Lib.hid ((below_alloc (Below.refl w.heap.size w) _).trans (hb1.mono (by simp)))
    clear hb1
    go_wp2_with fail
    refine (begin_yes w1 k HR.out.1 (by have := HR.out.2; omega)).mono ?_
    rintro e w2 ⟨g, a, cap, q, rfl, hSt⟩
    have B2 := Lib.hid (B1.out.trans (hSt.b.mono B1.out.size))
    clear hSt
    go_wp2_with fail
    go_ret
    exact ⟨rfl, B2.out⟩
theorem nodesSets_any (w : World) (s : Int) (hs : -9223372036854775808 ≤ s ∧ s ≤ 9223372036854775807) (A : Option Addr) (c : Nat) (ops : List OpD) (hr : Kd.C kO w A ops.length ops) (hc : ops.length ≤ c) (v : Ky) :
    Calls Try.prog 19 #[.int .i64 s, .slice A ops.length c, kv v] w fun e w' => e = .returned (.bool true) ∧ Below w.heap.size w w' := by
  by_cases h : RightN s ∧ s ≤ 512
  · obtain ⟨h1, h2⟩ := h
    have h0 : 0 ≤ s := by
      rcases h1 with e | e
      · omega
      · have := pow_range e; omega
    obtain ⟨k, rfl⟩ : ∃ k : Nat, s = k := ⟨s.toNat, by omega⟩
    exact sets_yes w k h1 (by omega) A c ops hr hc v
  · exact sets_no w s hs h A c ops.length v
end Go.Proofs.Ytlmmhlabacghnaa.PH
