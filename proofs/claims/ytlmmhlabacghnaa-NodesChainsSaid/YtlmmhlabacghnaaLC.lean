/- NodesChains walked. -/
import Derived.Test.YtlmmhlabacghnaaNK
import Derived.Deep.CutBlock
namespace Go.Proofs.Ytlmmhlabacghnaa.PH
open Go.RowKit Go.Proofs.YtlmmhlabacghnaaW.PrintWords Go.Proofs.YtlmmhlabacghnaaW.PrintLast Go.Proofs.YtlmmhlabacghnaaW.PrintMore
open Go.Proofs.Ytlmmhlabacghnaa.HM
set_option linter.unusedVariables false
set_option linter.unusedSimpArgs false

set_option maxHeartbeats 8000000 in
set_option maxRecDepth 100000 in
theorem chains_yes (w : World) (n : Nat) (hn : RightN n) (hs : n ≤ 512) (A : Option Addr) (c : Nat) (ops : List OpD) (hr : Kd.C kO w A ops.length ops) (hc : ops.length ≤ c) :
    Calls Try.prog 16 #[.int .i64 n, .slice A ops.length c] w fun e w' => e = .returned (.bool true) ∧ Below w.heap.size w w' := by
  have HN := Lib.hid hn
  have HR := Lib.hid hr
  have HC := Lib.hid hc
  have hol : ops.length ≤ 9223372036854775807 := hr.2.1
  have e1 : decide ((n : Int) > 512) = false := decide_eq_false (by omega)
  have e2 : decide (512 < (n : Int)) = false := decide_eq_false (by omega)
  clear hn hr hc
  go_enter Try.func16, Try.ntmps16
  go_wp2_with fail
  refine (fixed_call w).mono ?_
  rintro e w1 ⟨rfl, hb1⟩
  have B1 := Lib.hid hb1
  clear hb1
  go_wp2_with fail
  refine (begin_yes w1 n HN.out (by omega)).mono ?_
  rintro e w2 ⟨g, a, cap, q, rfl, hSt⟩
  have C1 := Lib.hid (Kd.C_below HR.out B1.out)
  have S2 := Lib.hid hSt
  clear hSt
  have hmx : Try.prog.follows .mixedOrders = true := by kernel_rfl
  go_upto_block 0 with (fail)
  go_cut [] (fun wx => ∃ (l : List Nd) (f : Nat), l.length = n ∧ RowKit.Hid (InvE l f) ∧ RowKit.Hid (St w1 g a cap l f wx))
  case first =>
    go_wp2_with fail
    go_loopg [8] ops.length (fun kq v8 wr => ∃ (i : Nat) (l : List Nd) (f : Nat), v8 = .int .i64 i ∧ i + kq = ops.length ∧ l.length = n ∧ RowKit.Hid (InvE l f) ∧ RowKit.Hid (St w1 g a cap l f wr))
    case atStart => exact ⟨0, _, n, rfl, by omega, List.length_replicate, Lib.hid (zeros_inv HN.out), S2⟩
    case round =>
      obtain ⟨i, l, f, rfl, hik, hln, hI, hS⟩ := hrel
      have hl4 : (i : Int) ≤ 9223372036854775807 := by omega
      cases gk with
      | zero =>
        have d1 : decide (i < ops.length) = false := decide_eq_false (by omega)
        have d2 : decide ((i : Int) < (ops.length : Int)) = false := decide_eq_false (by omega)
        go_wp2_with fail
        go_meet
        case rel => exact ⟨l, f, hln, hI, hS⟩
      | succ k1 =>
        have hlt : i < ops.length := by omega
        have d1 : decide (i < ops.length) = true := decide_eq_true (by omega)
        have d2 : decide ((i : Int) < (ops.length : Int)) = true := decide_eq_true (by omega)
        by_cases h4 : i < 400
        · have d3 : decide ((i : Int) < 400) = true := decide_eq_true (by omega)
          have CO := Kd.C_below C1.out hS.out.b
          obtain ⟨ad, hA, o0, o1, o2, o3, o4, o5, o6⟩ := at_op CO i hlt
          have p1 : 0 ≤ (i : Int) := by omega
          have p2 : (i : Int) < (ops.length : Int) := by omega
          replace p1 := eq_true p1
          replace p2 := eq_true p2
          have HH := Lib.hid (And.intro hlt hA)
          subst hA
          clear hlt CO
          by_cases hk : (od ops i).kind = 1
          · have hk1 : ((od ops i).kind == 1) = true := beq_iff_eq.2 hk
            have HK := Lib.hid hk
            clear hk
            go_wp2_with fail
            go_still_tail 11, (by kernel_rfl)
            change wpList _ _ _ _ _ wr.drew
            obtain ⟨l2, f2, at2, r2, x2, hP, hC⟩ := hI.out.put (od ops i).key (od ops i).val
            have S3 := Lib.hid (hS.out.below (Below.refl _ _).drew)
            have hx := hC _ g a cap _ S3.out.p S3.out.b.size
            unfold kv at hx
            go_wp2_with fail
            refine hx.mono ?_
            rintro e w4 ⟨rfl, hI4, hF4⟩
            have S4 := Lib.hid (S3.out.put hI4 hF4)
            have P2 := Lib.hid hP
            have hl2 : l2.length = n := hP.len.trans hln
            clear hx hC hI4 hF4 hP o0 o1 o2 o3 o4 o5 o6 S3 hS hI
            go_wp2_with fail
            go_roundg k1
            case measure => omega
            case rel => exact ⟨i + 1, l2, f2, by go_num, by omega, hl2, Lib.hid P2.out.inv, S4⟩
          · have hk1 : ((od ops i).kind == 1) = false := beq_eq_false_iff_ne.2 hk
            have HK := Lib.hid hk
            clear hk
            go_wp2_with fail
            go_roundg k1
            case measure => omega
            case rel => exact ⟨i + 1, l, f, by go_num, by omega, hln, hI, hS⟩
        · have d3 : decide ((i : Int) < 400) = false := decide_eq_false (by omega)
          go_wp2_with fail
          go_meet
          case rel => exact ⟨l, f, hln, hI, hS⟩
  case rest =>
    obtain ⟨l, f, hln, hI, hS⟩ := hcut
    go_wp2_with fail
    refine (dump_call hS.out.p).mono ?_
    rintro e w3 ⟨v, rfl, hR, hb3⟩
    obtain ⟨Ad, cd, rfl, hcd, hC3⟩ := Kd.R_reads hR
    have D3 := Lib.hid (And.intro hcd hC3)
    have S3 := Lib.hid (hS.out.below hb3)
    have hl5 : (l.length : Int) = (n : Int) := by omega
    have q1 : (l.length == n) = true := beq_iff_eq.2 hln
    have q2 : (l.length != n) = false := by rw [hln]; exact bne_self_eq_false _
    have q3 : ((l.length : Int) != (n : Int)) = false := by rw [hln]; exact bne_self_eq_false _
    have HL := Lib.hid hln
    have hn5 : (n : Int) ≤ 512 := by omega
    clear hl5 hR hb3 hS hcd hC3 hln
    go_wp2_with fail
    have hmx : Try.prog.follows .mixedOrders = true := by kernel_rfl
    go_loopg [10, 11, 12, 13, 14, 15, 16, 17, 18] n (fun kq v10 v11 v12 v13 v14 v15 v16 v17 v18 wr => ∃ i : Nat, v10 = .int .i64 i ∧ i + kq = n ∧ RowKit.Hid (St w1 g a cap l f wr) ∧ RowKit.Hid (Kd.C k67 wr Ad l.length l))
    case atStart => exact ⟨0, rfl, by omega, S3, Lib.hid D3.out.2⟩
    case round =>
      obtain ⟨i, rfl, hik, hS, hD⟩ := hrel
      have HIK := Lib.hid hik
      clear S3 D3
      cases gk with
      | zero =>
        have d1 : decide (i < n) = false := decide_eq_false (by omega)
        have d2 : decide ((i : Int) < (n : Int)) = false := decide_eq_false (by omega)
        clear hik
        go_wp2_with fail
        go_ret
        exact ⟨rfl, B1.out.trans (hS.out.b.mono B1.out.size)⟩
      | succ k1 =>
        have d1 : decide (i < n) = true := decide_eq_true (by omega)
        have d2 : decide ((i : Int) < (n : Int)) = true := decide_eq_true (by omega)
        have hil : i < l.length := by have := HL.out; omega
        have hi5 : (i : Int) ≤ 512 := by omega
        have p1 : 0 ≤ (i : Int) := by omega
        have p2 : (i : Int) < (l.length : Int) := by omega
        replace p1 := eq_true p1
        replace p2 := eq_true p2
        obtain ⟨ad, hA, o0, o1, o2, o3, o4, o5, o6⟩ := at_nd hD.out i hil
        have HIL := Lib.hid (And.intro hil hA)
        subst hA
        clear hil hik
        by_cases hz : (nd l i).f0.f0 = 0
        · have hzn : nd l i = zN := hI.out.keys.emp i HIL.out.1 hz
          rw [hzn] at o0 o1 o2 o3 o4 o5 o6
          have HZ := Lib.hid (And.intro hz hzn)
          clear hz hzn
          simp only [zN, z67, z30] at o0 o1 o2 o3 o4 o5 o6
          go_wp2_with fail
          go_roundg k1
          case measure => omega
          case rel => exact ⟨i + 1, by go_num, by have := HIK.out; omega, hS, hD⟩
        · have hz1 : ((nd l i).f0.f0 == 0) = false := beq_eq_false_iff_ne.2 hz
          obtain ⟨m, PA, PB, hpath, hml, hmain, hal, hfound, hl1⟩ := hI.out.path HIL.out.1 hz
          have HM := Lib.hid hmain
          have HPth := Lib.hid hpath
          clear hz
          obtain ⟨R, hR⟩ : ∃ R : Nat, 1 + PA.length = R := ⟨_, rfl⟩
          have hfound2 : Found l (nd l i).f0 i (R : Int) := by rw [← hR]; simpa using hfound
          have HF := Lib.hid (And.intro hfound2 hR)
          have hRn : R ≤ n := by have := HL.out; omega
          have hR1 : 1 ≤ R := by omega
          have hm5 : (m : Int) ≤ 512 := by have := HL.out; omega
          clear hpath hmain hfound hfound2 hal hl1 hml hR
          go_wp2_with fail
          have hmn : hash_Main.f (nd l i).f0.f0 (nd l i).f0.f1 (nd l i).f0.f2 (n : Int) = some ((m : Int), 0) := by rw [← HL.out]; exact HM.out
          refine (hash_Main.calls _ _ _ _ _ _ _ hmn).mono ?_
          rintro e w4 ⟨rfl, hb4⟩
          have S4 := Lib.hid (hS.out.below hb4)
          have D4 := Lib.hid (Kd.C_below hD.out hb4)
          clear hb4 hmn hS hD o0 o1 o2 o3 o4 o5 o6
          obtain ⟨ad2, hA, o0, o1, o2, o3, o4, o5, o6⟩ := at_nd D4.out i HIL.out.1
          obtain rfl := Option.some.inj hA
          clear hA
          go_wp2_with fail
          have hx := HF.out.1.c _ _ _ _ _ _ S4.out.p
          unfold kv at hx
          refine hx.mono ?_
          rintro e w5 ⟨rfl, hb5⟩
          have S5 := Lib.hid (S4.out.below hb5)
          have D5 := Lib.hid (Kd.C_below D4.out hb5)
          clear hb5 hx S4 D4 o0 o1 o2 o3 o4 o5 o6
          have r1 : decide ((R : Int) < 1) = false := decide_eq_false (by omega)
          have r2 : decide ((R : Int) > (n : Int)) = false := decide_eq_false (by omega)
          have r3 : decide (R > n) = false := decide_eq_false (by omega)
          have r4 : decide (n < R) = false := decide_eq_false (by omega)
          have r5 : decide (R < 1) = false := decide_eq_false (by omega)
          go_wp2_with fail
          go_loopg [15, 16, 17, 18] PA.length (fun kq v15 v16 v17 v18 wr => ∃ (A1 A2 : List Nat) (on K : Nat), v15 = .int .i64 on ∧ v16 = .int .i64 K ∧ K = 1 + A1.length ∧ RowKit.Hid (PA = A1 ++ A2) ∧ RowKit.Hid (∃ t, A2 ++ i :: PB = on :: t) ∧ kq = A2.length ∧ RowKit.Hid (St w1 g a cap l f wr) ∧ RowKit.Hid (Kd.C k67 wr (some ad) l.length l))
          case atStart => exact ⟨[], PA, m, 1, rfl, rfl, rfl, Lib.hid rfl, Lib.hid HPth.out.head, rfl, S5, D5⟩
          case round =>
            obtain ⟨A1, A2, on, K, rfl, rfl, hK, hPA, hhd, hkq, hS, hD⟩ := hrel
            have hRK : R = K + A2.length := by
              have h1 := HF.out.2
              have h2 := congrArg List.length hPA.out
              rw [List.length_append] at h2
              omega
            clear S5 D5
            cases A2 with
            | nil =>
              have hoi : on = i := by
                obtain ⟨t, ht⟩ := hhd.out
                simp only [List.nil_append, List.cons.injEq] at ht
                exact ht.1.symm
              subst hoi
              have d3 : decide (K < R) = false := decide_eq_false (by simp at hRK; omega)
              have d4 : decide ((K : Int) < (R : Int)) = false := decide_eq_false (by simp at hRK; omega)
              clear hRK hkq hK
              go_wp2_with fail
              go_roundg k1
              case measure => omega
              case rel => exact ⟨on + 1, by go_num, by have := HIK.out; omega, hS, hD⟩
            | cons qn A3 =>
              have hoq : on = qn := by
                obtain ⟨t, ht⟩ := hhd.out
                simp only [List.cons_append, List.cons.injEq] at ht
                exact ht.1.symm
              subst hoq
              rw [List.length_cons] at hRK hkq
              have hK5 : (K : Int) ≤ 512 := by omega
              have d3 : decide (K < R) = true := decide_eq_true (by omega)
              have d4 : decide ((K : Int) < (R : Int)) = true := decide_eq_true (by omega)
              obtain ⟨nx, t, hnx⟩ : ∃ nx t, A3 ++ i :: PB = nx :: t := by
                cases A3 with
                | nil => exact ⟨i, PB, rfl⟩
                | cons b A3 => exact ⟨b, A3 ++ i :: PB, rfl⟩
              have hall := hPA.out
              have hlk := HPth.out.link
              have hnd := HPth.out.nodup
              have hmm := HPth.out.mem
              rw [hall, List.append_assoc] at hlk hnd hmm
              have hlk2 := Linked.suffix A1 hlk
              have hnd2 := (List.nodup_append.1 hnd).2.1
              rw [List.cons_append] at hlk2 hnd2
              have hon := hmm on (by simp)
              have hni := hmm nx (by rw [List.cons_append, hnx]; simp)
              rw [hnx] at hlk2 hnd2
              have hstep : (on : Int) + (nd l on).f2 = nx := hlk2.1
              have hne : on ≠ nx := fun e => (List.nodup_cons.1 hnd2).1 (by rw [e]; simp)
              have hoi : on ≠ i := fun e => by
                have h4 := (List.nodup_cons.1 hnd2).1
                rw [← hnx] at h4
                exact h4 (by rw [e]; simp)
              have hmn : hash_Main.f (nd l on).f0.f0 (nd l on).f0.f1 (nd l on).f0.f2 (n : Int) = some ((m : Int), 0) := by rw [← HL.out]; exact hon.2.2
              have hon1 := hon.1
              have hnx1 := hni.1
              have hln := HL.out
              have ho5 : (on : Int) ≤ 512 := by omega
              have hn5 : (nx : Int) ≤ 512 := by omega
              have z1 : ((nd l on).f2 == 0) = false := beq_eq_false_iff_ne.2 (by omega)
              have z2 : ((on : Int) == (i : Int)) = false := beq_eq_false_iff_ne.2 (by omega)
              have z3 : (on == i) = false := beq_eq_false_iff_ne.2 hoi
              have z4 : IntKind.i64.wrap ((on : Int) + (nd l on).f2) = nx := by rw [hstep]; exact IntWalk.i64_in _ (by omega)
              have z5 : decide ((nx : Int) < 0) = false := decide_eq_false (by omega)
              have z6 : decide ((nx : Int) ≥ (n : Int)) = false := decide_eq_false (by omega)
              have z7 : decide (nx ≥ n) = false := decide_eq_false (by omega)
              have z8 : decide (n ≤ nx) = false := decide_eq_false (by omega)
              have s1 : 0 ≤ (on : Int) := by omega
              have s2 : (on : Int) < (l.length : Int) := by omega
              replace s1 := eq_true s1
              replace s2 := eq_true s2
              obtain ⟨ad3, hA, o0, o1, o2, o3, o4, o5, o6⟩ := at_nd hD.out on hon1
              obtain rfl := Option.some.inj hA
              have HX := Lib.hid (And.intro hRK (And.intro hK (And.intro hkq (And.intro hon1 (And.intro hnx1 hnx)))))
              have HS := Lib.hid hstep
              have HMN := Lib.hid hmn
              clear hA hall hlk hnd hmm hlk2 hnd2 hon hni hne hoi hstep hmn hRK hK hkq hon1 hnx1 hnx hln
              go_wp2_with fail
              refine (hash_Main.calls _ _ _ _ _ _ _ HMN.out).mono ?_
              rintro e w6 ⟨rfl, hb6⟩
              have S6 := Lib.hid (hS.out.below hb6)
              have D6 := Lib.hid (Kd.C_below hD.out hb6)
              clear hb6 hS hD o0 o1 o2 o3 o4 o5 o6
              obtain ⟨ad4, hA, o0, o1, o2, o3, o4, o5, o6⟩ := at_nd D6.out on HX.out.2.2.2.1
              obtain rfl := Option.some.inj hA
              clear hA
              go_wp2_with fail
              go_roundg A3.length
              case measure => have := HX.out.2.2.1; omega
              case rel =>
                obtain ⟨x1, x2, x3, x4, x5, x6⟩ := HX.out
                refine ⟨A1 ++ [on], A3, nx, K + 1, congrArg (Value.int .i64) (by first | exact HS.out | (have := HS.out; omega)), by go_num, by rw [List.length_append, List.length_singleton]; omega, Lib.hid (by rw [hPA.out]; simp), Lib.hid ⟨t, x6⟩, rfl, S6, D6⟩
set_option maxHeartbeats 8000000 in
set_option maxRecDepth 100000 in
theorem chains_no (w : World) (s : Int) (hs : -9223372036854775808 ≤ s ∧ s ≤ 9223372036854775807) (h : ¬ (RightN s ∧ s ≤ 512)) (A : Option Addr) (c n : Nat) :
    Calls Try.prog 16 #[.int .i64 s, .slice A n c] w fun e w' => e = .returned (.bool true) ∧ Below w.heap.size w w' := by
  by_cases hb : ¬ RightN s ∨ 4096 < s
  · have HB := Lib.hid hb
    have HS := Lib.hid hs
    obtain ⟨r, hr, hrt⟩ := right_any hs
    have HR := Lib.hid hr
    cases r with
    | false =>
      clear h hb hs hr hrt
      go_enter Try.func16, Try.ntmps16
      go_wp2_with fail
      refine (fixed_call w).mono ?_
      rintro e w1 ⟨rfl, hb1⟩
      have B1 := Lib.hid hb1
      clear hb1
      go_wp2_with fail
      refine (begin_no w1 s HS.out HB.out).mono ?_
      rintro e w2 ⟨rfl, hb2⟩
      have B2 := Lib.hid (B1.out.trans (hb2.mono B1.out.size))
      clear hb2
      go_wp2_with fail
      refine (trestleref07_Right.calls 18 s false _ HR.out).mono ?_
      rintro e w3 ⟨rfl, nd1, rfl⟩
      go_wp2_with fail
      go_ret
      exact ⟨rfl, pw_below_drewN B2.out nd1⟩
    | true =>
      have h2 : 4096 < s := hb.resolve_left (fun e => e (hrt.1 rfl))
      have d1 : decide (s > 4096) = true := decide_eq_true (by omega)
      have d2 : decide (4096 < s) = true := decide_eq_true (by omega)
      clear h hb hs hr hrt h2
      go_enter Try.func16, Try.ntmps16
      go_wp2_with fail
      refine (fixed_call w).mono ?_
      rintro e w1 ⟨rfl, hb1⟩
      have B1 := Lib.hid hb1
      clear hb1
      go_wp2_with fail
      refine (begin_no w1 s HS.out HB.out).mono ?_
      rintro e w2 ⟨rfl, hb2⟩
      have B2 := Lib.hid (B1.out.trans (hb2.mono B1.out.size))
      clear hb2
      go_wp2_with fail
      refine (trestleref07_Right.calls 18 s true _ HR.out).mono ?_
      rintro e w3 ⟨rfl, nd1, rfl⟩
      go_wp2_with fail
      go_ret
      exact ⟨rfl, pw_below_drewN B2.out nd1⟩
  · have hR : RightN s := Classical.byContradiction fun e => hb (.inl e)
    have h4 : s ≤ 4096 := by omega
    have h5 : 512 < s := by
      by_cases h6 : s ≤ 512
      · exact absurd ⟨hR, h6⟩ h
      · omega
    obtain ⟨k, rfl⟩ : ∃ k : Nat, s = k := ⟨s.toNat, by omega⟩
    have HR := Lib.hid (And.intro hR h4)
    have a2 : decide ((k : Int) > 512) = true := decide_eq_true (by omega)
    have a3 : decide (512 < (k : Int)) = true := decide_eq_true (by omega)
    have hk : (k : Int) ≤ 65536 := by omega
    clear hb hR h4 h5 h hs
    go_enter Try.func16, Try.ntmps16
    go_wp2_with fail
    refine (fixed_call w).mono ?_
    rintro e w1 ⟨rfl, hb1⟩
    have B1 := Lib.hid hb1
    clear hb1
    go_wp2_with fail
    refine (begin_yes w1 k HR.out.1 (by have := HR.out.2; omega)).mono ?_
    rintro e w2 ⟨g, a, cap, q, rfl, hSt⟩
    have B2 := Lib.hid (B1.out.trans (hSt.b.mono B1.out.size))
    clear hSt
    go_wp2_with fail
    go_ret
    exact ⟨rfl, B2.out⟩
theorem nodesChains_any (w : World) (s : Int) (hs : -9223372036854775808 ≤ s ∧ s ≤ 9223372036854775807) (A : Option Addr) (c : Nat) (ops : List OpD) (hr : Kd.C kO w A ops.length ops) (hc : ops.length ≤ c) :
    Calls Try.prog 16 #[.int .i64 s, .slice A ops.length c] w fun e w' => e = .returned (.bool true) ∧ Below w.heap.size w w' := by
  by_cases h : RightN s ∧ s ≤ 512
  · obtain ⟨h1, h2⟩ := h
    have h0 : 0 ≤ s := by
      rcases h1 with e | e
      · omega
      · have := pow_range e; omega
    obtain ⟨k, rfl⟩ : ∃ k : Nat, s = k := ⟨s.toNat, by omega⟩
    exact chains_yes w k h1 (by omega) A c ops hr hc
  · exact chains_no w s hs h A c ops.length
end Go.Proofs.Ytlmmhlabacghnaa.PH
