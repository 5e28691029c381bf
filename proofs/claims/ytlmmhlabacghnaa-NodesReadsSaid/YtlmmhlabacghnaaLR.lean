/- NodesReads walked. -/
import Derived.Test.YtlmmhlabacghnaaNS
import Derived.Deep.CutBlock
namespace Go.Proofs.Ytlmmhlabacghnaa.PH
open Go.RowKit Go.Proofs.YtlmmhlabacghnaaW.PrintWords Go.Proofs.YtlmmhlabacghnaaW.PrintLast Go.Proofs.YtlmmhlabacghnaaW.PrintMore
open Go.Proofs.Ytlmmhlabacghnaa.HM
set_option linter.unusedVariables false
set_option linter.unusedSimpArgs false

set_option maxHeartbeats 1000000 in
set_option maxRecDepth 100000 in
theorem d1_call {B g a cap : Nat} {l : List Nd} {f : Int} {w : World} (h : IsP B g a cap l f w) :
    Calls Try.prog 62 #[.pointer (some ⟨g, 0, none⟩)] w fun e w' => e = .returned (.int .i64 l.length) ∧ w' = w := by
  have H := Lib.hid h
  clear h
  go_enter Try.func62, Try.ntmps62
  go_wp2_with fail
  refine (size_call H.out).mono ?_
  rintro e w2 ⟨rfl, rfl⟩
  go_wp2_with fail
  go_ret
  exact ⟨rfl, rfl⟩
theorem sumN_le {l : List Nd} {f : Nat} (h : InvE l f) : ∀ i, i ≤ l.length → heldN l i ≤ sumN l i ∧ sumN l i ≤ l.length * i
  | 0, _ => ⟨Nat.le_refl _, Nat.zero_le _⟩
  | i + 1, hi => by
    obtain ⟨h1, h2⟩ := sumN_le h i (by omega)
    show heldN l i + _ ≤ sumN l i + _ ∧ sumN l i + _ ≤ l.length * (i + 1)
    rw [Nat.mul_add_one]
    by_cases hz : (nd l i).f0.f0 = 0
    · rw [if_pos hz, if_pos hz]; omega
    · rw [if_neg hz, if_neg hz]
      obtain ⟨m, A, B, _, _, _, hA, hF, _⟩ := h.path (p := i) (by omega) hz
      have hr : rdN l i = 1 + A.length := by unfold rdN; rw [hF.fn]; simp only; omega
      omega
set_option maxHeartbeats 8000000 in
set_option maxRecDepth 100000 in
theorem reads_yes (w : World) (n : Nat) (hn : RightN n) (hs : n ≤ 512) (A : Option Addr) (c : Nat) (ops : List OpD) (hr : Kd.C kO w A ops.length ops) (hc : ops.length ≤ c) :
    Calls Try.prog 21 #[.int .i64 n, .slice A ops.length c] w fun e w' => e = .returned (.bool true) ∧ Below w.heap.size w w' := by
  have HN := Lib.hid hn
  have HR := Lib.hid hr
  have HC := Lib.hid hc
  have hol : ops.length ≤ 9223372036854775807 := hr.2.1
  have e1 : decide ((n : Int) > 512) = false := decide_eq_false (by omega)
  have e2 : decide (512 < (n : Int)) = false := decide_eq_false (by omega)
  clear hn hr hc
  go_enter Try.func21, Try.ntmps21
  go_wp2_with fail
  refine (fixed_call w).mono ?_
  rintro e w1 ⟨rfl, hb1⟩
  have B1 := Lib.hid hb1
  clear hb1
  go_wp2_with fail
  refine (begin_yes w1 n HN.out (by omega)).mono ?_
  rintro e w2 ⟨g, a, cap, q, rfl, hSt⟩
  have C1 := Lib.hid (Kd.C_below HR.out B1.out)
  have S2 := Lib.hid hSt
  clear hSt
  have hmx : Try.prog.follows .mixedOrders = true := by kernel_rfl
  go_upto_block 0 with (fail)
  go_cut [] (fun wx => ∃ (l : List Nd) (f : Nat), l.length = n ∧ RowKit.Hid (InvE l f) ∧ RowKit.Hid (St w1 g a cap l f wx))
  case first =>
    go_wp2_with fail
    go_loopg [8] ops.length (fun kq v8 wr => ∃ (i : Nat) (l : List Nd) (f : Nat), v8 = .int .i64 i ∧ i + kq = ops.length ∧ l.length = n ∧ RowKit.Hid (InvE l f) ∧ RowKit.Hid (St w1 g a cap l f wr))
    case atStart => exact ⟨0, _, n, rfl, by omega, List.length_replicate, Lib.hid (zeros_inv HN.out), S2⟩
    case round =>
      obtain ⟨i, l, f, rfl, hik, hln, hI, hS⟩ := hrel
      have hl4 : (i : Int) ≤ 9223372036854775807 := by omega
      cases gk with
      | zero =>
        have d1 : decide (i < ops.length) = false := decide_eq_false (by omega)
        have d2 : decide ((i : Int) < (ops.length : Int)) = false := decide_eq_false (by omega)
        go_wp2_with fail
        go_meet
        case rel => exact ⟨l, f, hln, hI, hS⟩
      | succ k1 =>
        have hlt : i < ops.length := by omega
        have d1 : decide (i < ops.length) = true := decide_eq_true (by omega)
        have d2 : decide ((i : Int) < (ops.length : Int)) = true := decide_eq_true (by omega)
        by_cases h4 : i < 400
        · have d3 : decide ((i : Int) < 400) = true := decide_eq_true (by omega)
          have CO := Kd.C_below C1.out hS.out.b
          obtain ⟨ad, hA, o0, o1, o2, o3, o4, o5, o6⟩ := at_op CO i hlt
          have p1 : 0 ≤ (i : Int) := by omega
          have p2 : (i : Int) < (ops.length : Int) := by omega
          replace p1 := eq_true p1
          replace p2 := eq_true p2
          have HH := Lib.hid (And.intro hlt hA)
          subst hA
          clear hlt CO
          go_wp2_with fail
          go_still_tail 11, (by kernel_rfl)
          change wpList _ _ _ _ _ wr.drew
          obtain ⟨l2, f2, at2, r2, x2, hP, hC⟩ := hI.out.put (od ops i).key (od ops i).val
          have S3 := Lib.hid (hS.out.below (Below.refl _ _).drew)
          have hx := hC _ g a cap _ S3.out.p S3.out.b.size
          unfold kv at hx
          go_wp2_with fail
          refine hx.mono ?_
          rintro e w4 ⟨rfl, hI4, hF4⟩
          have S4 := Lib.hid (S3.out.put hI4 hF4)
          have P2 := Lib.hid hP
          have hl2 : l2.length = n := hP.len.trans hln
          clear hx hC hI4 hF4 hP o0 o1 o2 o3 o4 o5 o6 S3 hS hI
          go_wp2_with fail
          go_roundg k1
          case measure => omega
          case rel => exact ⟨i + 1, l2, f2, by go_num, by omega, hl2, Lib.hid P2.out.inv, S4⟩
        · have d3 : decide ((i : Int) < 400) = false := decide_eq_false (by omega)
          go_wp2_with fail
          go_meet
          case rel => exact ⟨l, f, hln, hI, hS⟩
  case rest =>
    obtain ⟨l, f, hln, hI, hS⟩ := hcut
    go_wp2_with fail
    refine (dump_call hS.out.p).mono ?_
    rintro e w3 ⟨v, rfl, hR, hb3⟩
    obtain ⟨Ad, cd, rfl, hcd, hC3⟩ := Kd.R_reads hR
    have D3 := Lib.hid hC3
    have S3 := Lib.hid (hS.out.below hb3)
    have HL := Lib.hid hln
    have hn5 : (n : Int) ≤ 512 := by omega
    have hl5 : (l.length : Int) ≤ 512 := by omega
    clear hR hb3 hS hcd hC3 hln
    go_wp2_with fail
    go_loopg [9, 10, 12, 13, 14, 15, 16] l.length (fun kq v9 v10 v12 v13 v14 v15 v16 wr => ∃ i s h : Nat, v12 = .int .i64 i ∧ v9 = .int .i64 s ∧ v10 = .int .i64 h ∧ RowKit.Hid (s = sumN l i ∧ h = heldN l i) ∧ i + kq = l.length ∧ RowKit.Hid (St w1 g a cap l f wr) ∧ RowKit.Hid (Kd.C k67 wr Ad l.length l))
    case atStart => exact ⟨0, 0, 0, rfl, rfl, rfl, Lib.hid ⟨rfl, rfl⟩, by omega, S3, D3⟩
    case round =>
      obtain ⟨i, s, h, rfl, rfl, rfl, HSH, hik, hS, hD⟩ := hrel
      clear S3 D3
      have hsn := sumN_le hI.out i (by omega)
      have hhe := heldN_le l i
      have hmul : l.length * i ≤ 262144 := (Nat.mul_le_mul (show l.length ≤ 512 by omega) (show i ≤ 512 by omega))
      have hs5 : (s : Int) ≤ 262144 := by have := HSH.out.1; omega
      have hh5 : (h : Int) ≤ 512 := by have := HSH.out.2; omega
      clear hsn hhe hmul
      cases gk with
      | zero =>
        have d1 : decide (i < l.length) = false := decide_eq_false (by omega)
        have d2 : decide ((i : Int) < (l.length : Int)) = false := decide_eq_false (by omega)
        have hil : i = l.length := by omega
        have HIL := Lib.hid hil
        have HP := Lib.hid hI.out.sums
        clear hil hik
        have hsl := (sumN_le hI.out l.length (Nat.le_refl _)).1
        have hsum := HP.out
        obtain ⟨P, hP⟩ : ∃ P : Nat, h * (h + 1) = P := ⟨_, rfl⟩
        rw [← HIL.out, ← HSH.out.2, hP, ← HSH.out.1] at hsum
        rw [← HIL.out, ← HSH.out.2, ← HSH.out.1] at hsl
        have hPb : P ≤ 512 * 513 := by rw [← hP]; exact Nat.mul_le_mul (by omega) (by omega)
        have hPi : (h : Int) * ((h : Int) + 1) = (P : Int) := by rw [← hP]; push_cast; rfl
        have k2 : IntKind.i64.wrap ((h : Int) * ((h : Int) + 1)) = (P : Int) := by rw [hPi]; exact IntWalk.i64_in _ (by omega)
        have k1 : wrap64 ((h : Int) * ((h : Int) + 1)) = (P : Int) := by rw [hPi]; unfold wrap64; omega
        have k3 : decide ((s : Int) ≥ (h : Int)) = true := decide_eq_true (by omega)
        have k4 : decide (s ≥ h) = true := decide_eq_true (by omega)
        have k5 : decide (h ≤ s) = true := decide_eq_true (by omega)
        have k6 : decide ((s : Int) ≤ (P : Int) / 2) = true := decide_eq_true (by omega)
        have k7 : decide ((s : Int) ≤ (P : Int).tdiv 2) = true := decide_eq_true (by rw [Int.tdiv_eq_ediv_of_nonneg (by omega)]; omega)
        have hP9 : (P : Int) ≤ 512 * 513 := by omega
        have q1 : ((l.length : Int) == (n : Int)) = true := beq_iff_eq.2 (by have := HL.out; omega)
        have q2 : (l.length == n) = true := beq_iff_eq.2 HL.out
        clear hsl hsum hP hPb hPi
        go_wp2_with fail
        refine (d1_call hS.out.p).mono ?_
        rintro e w4 ⟨rfl, rfl⟩
        go_wp2_with fail
        go_ret
        exact ⟨rfl, B1.out.trans (hS.out.b.mono B1.out.size)⟩
      | succ k1 =>
        have d1 : decide (i < l.length) = true := decide_eq_true (by omega)
        have d2 : decide ((i : Int) < (l.length : Int)) = true := decide_eq_true (by omega)
        have hil : i < l.length := by omega
        have hi5 : (i : Int) ≤ 512 := by omega
        have p1 : 0 ≤ (i : Int) := by omega
        have p2 : (i : Int) < (l.length : Int) := by omega
        replace p1 := eq_true p1
        replace p2 := eq_true p2
        obtain ⟨ad, hA, o0, o1, o2, o3, o4, o5, o6⟩ := at_nd hD.out i hil
        have HIL := Lib.hid (And.intro hil hik)
        subst hA
        clear hil hik
        by_cases hz : (nd l i).f0.f0 = 0
        · have hz1 : ((nd l i).f0.f0 == 0) = true := beq_iff_eq.2 hz
          have HZ := Lib.hid hz
          rw [hz] at o0
          clear hz
          go_wp2_with fail
          go_roundg k1
          case measure => omega
          case rel => exact ⟨i + 1, s, h, by go_num, rfl, rfl, Lib.hid (by show s = sumN l i + _ ∧ h = heldN l i + _; rw [if_pos HZ.out, if_pos HZ.out]; exact HSH.out), by have := HIL.out.2; omega, hS, hD⟩
        · have hz1 : ((nd l i).f0.f0 == 0) = false := beq_eq_false_iff_ne.2 hz
          have hz2 : ((nd l i).f0.f0 != 0) = true := bne_iff_ne.2 hz
          obtain ⟨m, PA, PB, hpath, hml, hmain, hal, hfound, hl1⟩ := hI.out.path HIL.out.1 hz
          obtain ⟨R, hR⟩ : ∃ R : Nat, 1 + PA.length = R := ⟨_, rfl⟩
          have hfound2 : Found l (nd l i).f0 i (R : Int) := by rw [← hR]; simpa using hfound
          have HF := Lib.hid hfound2
          have hrd : rdN l i = R := by unfold rdN; rw [hfound2.fn]; simp
          have HRD := Lib.hid (And.intro hrd hz)
          have hRn : (R : Int) ≤ 512 := by omega
          have hva : valAt l (i : Int) = (nd l i).f1 := by unfold valAt; rw [if_pos (by omega), Int.toNat_natCast]
          clear hpath hmain hfound hfound2 hal hl1 hml hR hz hrd
          go_wp2_with fail
          have hx := get_call hS.out.p (nd l i).f0 i R HF.out.c (.inr ⟨i, rfl, HIL.out.1⟩)
          rw [hva] at hx
          unfold kv at hx
          refine hx.mono ?_
          rintro e w4 ⟨rfl, hb4⟩
          have S4 := Lib.hid (hS.out.below hb4)
          have D4 := Lib.hid (Kd.C_below hD.out hb4)
          clear hb4 hx hva hS hD o0 o1 o2 o3 o4 o5 o6
          obtain ⟨ad2, hA, o0, o1, o2, o3, o4, o5, o6⟩ := at_nd D4.out i HIL.out.1
          obtain rfl := Option.some.inj hA
          clear hA
          have oa := alloc_cell o0 (.cells #[.int .i64 (nd l i).f1.f0, .int .i64 (nd l i).f1.f1, .string (nd l i).f1.f2] 30)
          have ob := alloc_cell o1 (.cells #[.int .i64 (nd l i).f1.f0, .int .i64 (nd l i).f1.f1, .string (nd l i).f1.f2] 30)
          have oc := alloc_cell o2 (.cells #[.int .i64 (nd l i).f1.f0, .int .i64 (nd l i).f1.f1, .string (nd l i).f1.f2] 30)
          go_wp2_with fail
          obtain ⟨w5, hw5, hb5, hM5⟩ : ∃ w5, w4.alloc (.cells #[.int .i64 (nd l i).f1.f0, .int .i64 (nd l i).f1.f1, .string (nd l i).f1.f2] 30) = w5 ∧ Below w4.heap.size w4 w5 ∧ w5.heap[w4.heap.size]? = some (.cells #[.int .i64 (nd l i).f1.f0, .int .i64 (nd l i).f1.f1, .string (nd l i).f1.f2] 30 (0, 0)) :=
            ⟨_, rfl, (Below.refl _ _).alloc (Nat.le_refl _) _, heap_alloc_new _ _⟩
          rw [hw5]
          have S5 := Lib.hid (S4.out.below hb5)
          have D5 := Lib.hid (Kd.C_below D4.out hb5)
          have M5 := Lib.hid hM5
          have hx := HF.out.c _ _ _ _ _ _ S5.out.p
          unfold kv at hx
          refine hx.mono ?_
          rintro e w6 ⟨rfl, hb6⟩
          have S6 := Lib.hid (S5.out.below hb6)
          have D6 := Lib.hid (Kd.C_below D5.out hb6)
          have M6 := Lib.hid ((hb6.block w4.heap.size (Array.getElem?_eq_some_iff.1 hM5).1).trans hM5)
          clear hx hb6 hb5 hM5 hw5 S4 S5 D4 D5 M5 o0 o1 o2 o3 o4 o5 o6 oa ob oc
          obtain ⟨ad3, hA, o0, o1, o2, o3, o4, o5, o6⟩ := at_nd D6.out i HIL.out.1
          obtain rfl := Option.some.inj hA
          clear hA
          obtain ⟨m0, m1, m2⟩ := three_of M6.out
          have b1 : ((R : Int) != (R : Int)) = false := bne_self_eq_false _
          have b2 : ((i : Int) != (i : Int)) = false := bne_self_eq_false _
          have b3 : (R != R) = false := bne_self_eq_false _
          have b4 : (i != i) = false := bne_self_eq_false _
          go_wp2_with fail
          go_quiet (fail)
          go_wp2_with fail
          go_roundg k1
          case measure => omega
          case rel => exact ⟨i + 1, s + R, h + 1, by go_num, by go_num, by go_num, Lib.hid (by show s + R = sumN l i + _ ∧ h + 1 = heldN l i + _; rw [if_neg HRD.out.2, if_neg HRD.out.2, HRD.out.1, HSH.out.1, HSH.out.2]; exact ⟨rfl, rfl⟩), by have := HIL.out.2; omega, Lib.hid (S6.out.below (pw_below_drewN (Below.refl _ _) _)), Lib.hid (Kd.C_below D6.out (pw_below_drewN (Below.refl _ _) _))⟩
set_option maxHeartbeats 8000000 in
set_option maxRecDepth 100000 in
theorem reads_no (w : World) (s : Int) (hs : -9223372036854775808 ≤ s ∧ s ≤ 9223372036854775807) (h : ¬ (RightN s ∧ s ≤ 512)) (A : Option Addr) (c n : Nat) :
    Calls Try.prog 21 #[.int .i64 s, .slice A n c] w fun e w' => e = .returned (.bool true) ∧ Below w.heap.size w w' := by
  by_cases hb : ¬ RightN s ∨ 4096 < s
  · have HB := Lib.hid hb
    have HH := Lib.hid h
    rcases (show s < 0 ∨ 512 < s ∨ (0 ≤ s ∧ s ≤ 512) by omega) with h0 | h0 | h0
    all_goals
      have HS := Lib.hid hs
      have H0 := Lib.hid h0
      clear h hb hs
    · have a1 : decide (s < 0) = true := decide_eq_true h0
      clear h0
      go_enter Try.func21, Try.ntmps21
      go_wp2_with fail
      refine (fixed_call w).mono ?_
      rintro e w1 ⟨rfl, hb1⟩
      have B1 := Lib.hid hb1
      clear hb1
      go_wp2_with fail
      refine (begin_no w1 s HS.out HB.out).mono ?_
      rintro e w2 ⟨rfl, hb2⟩
      have B2 := Lib.hid (B1.out.trans (hb2.mono B1.out.size))
      clear hb2
      go_wp2_with fail
      go_ret
      exact ⟨rfl, B2.out⟩
    · have a1 : decide (s < 0) = false := decide_eq_false (by omega)
      have a2 : decide (s > 512) = true := decide_eq_true (by omega)
      have a3 : decide (512 < s) = true := decide_eq_true (by omega)
      clear h0
      go_enter Try.func21, Try.ntmps21
      go_wp2_with fail
      refine (fixed_call w).mono ?_
      rintro e w1 ⟨rfl, hb1⟩
      have B1 := Lib.hid hb1
      clear hb1
      go_wp2_with fail
      refine (begin_no w1 s HS.out HB.out).mono ?_
      rintro e w2 ⟨rfl, hb2⟩
      have B2 := Lib.hid (B1.out.trans (hb2.mono B1.out.size))
      clear hb2
      go_wp2_with fail
      go_ret
      exact ⟨rfl, B2.out⟩
    · have a1 : decide (s < 0) = false := decide_eq_false (by omega)
      have a2 : decide (s > 512) = false := decide_eq_false (by omega)
      have a3 : decide (512 < s) = false := decide_eq_false (by omega)
      have a4 : Go.bits .and .i64 s (s - 1) ≠ 0 := bits_wrong (fun e => HH.out ⟨e, by omega⟩) (by omega)
      have a5 : (Go.bits .and .i64 s (s - 1) != 0) = true := bne_iff_ne.2 a4
      clear a4
      go_enter Try.func21, Try.ntmps21
      go_wp2_with fail
      refine (fixed_call w).mono ?_
      rintro e w1 ⟨rfl, hb1⟩
      have B1 := Lib.hid hb1
      clear hb1
      go_wp2_with fail
      refine (begin_no w1 s HS.out HB.out).mono ?_
      rintro e w2 ⟨rfl, hb2⟩
      have B2 := Lib.hid (B1.out.trans (hb2.mono B1.out.size))
      clear hb2
      go_wp2_with fail
      go_ret
      exact ⟨rfl, B2.out⟩
  · have hR : RightN s := Classical.byContradiction fun e => hb (.inl e)
    have h4 : s ≤ 4096 := by omega
    have h5 : 512 < s := by
      by_cases h6 : s ≤ 512
      · exact absurd ⟨hR, h6⟩ h
      · omega
    obtain ⟨k, rfl⟩ : ∃ k : Nat, s = k := ⟨s.toNat, by omega⟩
    have HR := Lib.hid (And.intro hR h4)
    have a2 : decide ((k : Int) > 512) = true := decide_eq_true (by omega)
    have a3 : decide (512 < (k : Int)) = true := decide_eq_true (by omega)
    have hk : (k : Int) ≤ 65536 := by omega
    clear hb hR h4 h5 h hs
    go_enter Try.func21, Try.ntmps21
    go_wp2_with fail
    refine (fixed_call w).mono ?_
    rintro e w1 ⟨rfl, hb1⟩
    have B1 := Lib.hid hb1
    clear hb1
    go_wp2_with fail
    refine (begin_yes w1 k HR.out.1 (by have := HR.out.2; omega)).mono ?_
    rintro e w2 ⟨g, a, cap, q, rfl, hSt⟩
    have B2 := Lib.hid (B1.out.trans (hSt.b.mono B1.out.size))
    clear hSt
    go_wp2_with fail
    go_ret
    exact ⟨rfl, B2.out⟩
theorem nodesReads_any (w : World) (s : Int) (hs : -9223372036854775808 ≤ s ∧ s ≤ 9223372036854775807) (A : Option Addr) (c : Nat) (ops : List OpD) (hr : Kd.C kO w A ops.length ops) (hc : ops.length ≤ c) :
    Calls Try.prog 21 #[.int .i64 s, .slice A ops.length c] w fun e w' => e = .returned (.bool true) ∧ Below w.heap.size w w' := by
  by_cases h : RightN s ∧ s ≤ 512
  · obtain ⟨h1, h2⟩ := h
    have h0 : 0 ≤ s := by
      rcases h1 with e | e
      · omega
      · have := pow_range e; omega
    obtain ⟨k, rfl⟩ : ∃ k : Nat, s = k := ⟨s.toNat, by omega⟩
    exact reads_yes w k h1 (by omega) A c ops hr hc
  · exact reads_no w s hs h A c ops.length
end Go.Proofs.Ytlmmhlabacghnaa.PH
