/- NodesFree walked. -/
import Derived.Test.YtlmmhlabacghnaaNO
namespace Go.Proofs.Ytlmmhlabacghnaa.PH
open Go.RowKit Go.Proofs.YtlmmhlabacghnaaW.PrintWords Go.Proofs.YtlmmhlabacghnaaW.PrintLast Go.Proofs.YtlmmhlabacghnaaW.PrintMore
open Go.Proofs.Ytlmmhlabacghnaa.HM
set_option linter.unusedVariables false
set_option linter.unusedSimpArgs false

theorem C_St {w0 w : World} {g a cap : Nat} {l : List Nd} {f : Int} (h : St w0 g a cap l f w) {A : Option Addr} {n : Nat} {xs : List OpD} (hc : Kd.C kO w0 A n xs) : Kd.C kO w A n xs := Kd.C_below hc h.b
set_option maxHeartbeats 8000000 in
set_option maxRecDepth 100000 in
theorem free_yes (w : World) (n : Nat) (hn : RightN n) (hs : n ≤ 256) (A : Option Addr) (c : Nat) (ops : List OpD) (hr : Kd.C kO w A ops.length ops) (hc : ops.length ≤ c) :
    Calls Try.prog 14 #[.int .i64 n, .slice A ops.length c] w fun e w' => e = .returned (.bool true) ∧ Below w.heap.size w w' := by
  have HN := Lib.hid hn
  have HR := Lib.hid hr
  have HC := Lib.hid hc
  have hol : ops.length ≤ 9223372036854775807 := hr.2.1
  have e1 : decide ((n : Int) > 256) = false := decide_eq_false (by omega)
  have e2 : decide (256 < (n : Int)) = false := decide_eq_false (by omega)
  clear hn hr hc
  go_enter Try.func14, Try.ntmps14
  go_wp2_with fail
  refine (fixed_call w).mono ?_
  rintro e w1 ⟨rfl, hb1⟩
  have B1 := Lib.hid hb1
  clear hb1
  go_wp2_with fail
  refine (begin_yes w1 n HN.out (by omega)).mono ?_
  rintro e w2 ⟨g, a, cap, q, rfl, hSt⟩
  have C1 := Lib.hid (Kd.C_below HR.out B1.out)
  have S2 := Lib.hid hSt
  clear hSt
  go_wp2_with fail
  refine (free_call S2.out.p).mono ?_
  rintro e w3 ⟨rfl, rfl⟩
  go_wp2_with fail
  go_loopg [8, 9, 10, 11] ops.length (fun kq v8 v9 v10 v11 wr => ∃ (i : Nat) (l : List Nd) (f : Nat), v9 = .int .i64 i ∧ v8 = .int .i64 f ∧ i + kq = ops.length ∧ l.length = n ∧ RowKit.Hid (InvE l f) ∧ RowKit.Hid (St w1 g a cap l f wr))
  case atStart => exact ⟨0, _, n, rfl, rfl, by omega, List.length_replicate, Lib.hid (zeros_inv HN.out), S2⟩
  case round =>
    obtain ⟨i, l, f, rfl, rfl, hik, hln, hI, hS⟩ := hrel
    have hl4 : (i : Int) ≤ 9223372036854775807 := by omega
    cases gk with
    | zero =>
      have d1 : decide (i < ops.length) = false := decide_eq_false (by omega)
      have d2 : decide ((i : Int) < (ops.length : Int)) = false := decide_eq_false (by omega)
      go_wp2_with fail
      go_ret
      exact ⟨rfl, B1.out.trans (hS.out.b.mono B1.out.size)⟩
    | succ k1 =>
      have hlt : i < ops.length := by omega
      have d1 : decide (i < ops.length) = true := decide_eq_true (by omega)
      have d2 : decide ((i : Int) < (ops.length : Int)) = true := decide_eq_true (by omega)
      by_cases h4 : i < 400
      · have d3 : decide ((i : Int) < 400) = true := decide_eq_true (by omega)
        have CO := Kd.C_below C1.out hS.out.b
        obtain ⟨ad, hA, o0, o1, o2, o3, o4, o5, o6⟩ := at_op CO i hlt
        have p1 : 0 ≤ (i : Int) := by omega
        have p2 : (i : Int) < (ops.length : Int) := by omega
        replace p1 := eq_true p1
        replace p2 := eq_true p2
        have hmx : Try.prog.follows .mixedOrders = true := by kernel_rfl
        have HH := Lib.hid (And.intro hlt hA)
        subst hA
        clear hlt CO
        go_wp2_with fail
        go_still_tail 11, (by kernel_rfl)
        change wpList _ _ _ _ _ wr.drew
        obtain ⟨l2, f2, at2, r2, x2, hP, hC⟩ := hI.out.put (od ops i).key (od ops i).val
        have S3 := Lib.hid (hS.out.below (Below.refl _ _).drew)
        have hx := hC _ g a cap _ S3.out.p S3.out.b.size
        unfold kv at hx
        go_wp2_with fail
        refine hx.mono ?_
        rintro e w4 ⟨rfl, hI4, hF4⟩
        have S4 := Lib.hid (S3.out.put hI4 hF4)
        have P2 := Lib.hid hP
        have hf2 : f2 ≤ f := hP.fle
        have hl2 : l2.length = n := hP.len.trans hln
        clear hx hC hI4 hF4 hP o0 o1 o2 o3 o4 o5 o6 S3 hS hI
        go_wp2_with fail
        refine (free_call S4.out.p).mono ?_
        rintro e w5 ⟨rfl, rfl⟩
        have q1 : decide ((f2 : Int) > (f : Int)) = false := decide_eq_false (by omega)
        have q2 : decide (f2 > f) = false := decide_eq_false (by omega)
        have q3 : decide (f < f2) = false := decide_eq_false (by omega)
        have q4 : decide ((f2 : Int) < 0) = false := decide_eq_false (by omega)
        go_wp2_with fail
        go_loopg [11] (n - f2) (fun kq v11 wr => ∃ j : Nat, v11 = .int .i64 j ∧ j + kq = n ∧ f2 ≤ j ∧ RowKit.Hid (St w1 g a cap l2 f2 wr))
        case atStart => exact ⟨f2, rfl, by have := P2.out.inv.fle; omega, Nat.le_refl _, S4⟩
        case round =>
          obtain ⟨j, rfl, hj, hfj, hS⟩ := hrel
          cases gk with
          | zero =>
            have d4 : decide (j < n) = false := decide_eq_false (by omega)
            have d5 : decide ((j : Int) < (n : Int)) = false := decide_eq_false (by omega)
            go_wp2_with fail
            go_roundg k1
            case measure => omega
            case rel => exact ⟨i + 1, l2, f2, by go_num, rfl, by omega, hl2, Lib.hid P2.out.inv, hS⟩
          | succ k2 =>
            have d4 : decide (j < n) = true := decide_eq_true (by omega)
            have d5 : decide ((j : Int) < (n : Int)) = true := decide_eq_true (by omega)
            have hjl : j < l2.length := by omega
            go_wp2_with fail
            refine (at_call hS.out.p j hjl).mono ?_
            rintro e w6 ⟨rfl, hb6⟩
            have S6 := Lib.hid (hS.out.below hb6)
            have z1 : ((nd l2 j).f0.f0 == 0) = false := beq_eq_false_iff_ne.2 (P2.out.inv.free j hfj hjl)
            have hf0 := field_key
            have hf1 := field_kind
            unfold nv
            clear hb6 hjl hS
            go_wp2_with fail
            go_roundg k2
            case measure => omega
            case rel => exact ⟨j + 1, by go_num, by omega, by omega, S6⟩
      · have d3 : decide ((i : Int) < 400) = false := decide_eq_false (by omega)
        go_wp2_with fail
        go_ret
        exact ⟨rfl, B1.out.trans (hS.out.b.mono B1.out.size)⟩
set_option maxHeartbeats 8000000 in
set_option maxRecDepth 100000 in
theorem free_no (w : World) (s : Int) (hs : -9223372036854775808 ≤ s ∧ s ≤ 9223372036854775807) (h : ¬ (RightN s ∧ s ≤ 256)) (A : Option Addr) (c n : Nat) :
    Calls Try.prog 14 #[.int .i64 s, .slice A n c] w fun e w' => e = .returned (.bool true) ∧ Below w.heap.size w w' := by
  by_cases hb : ¬ RightN s ∨ 4096 < s
  · have HB := Lib.hid hb
    have HH := Lib.hid h
    rcases (show s < 0 ∨ 256 < s ∨ (0 ≤ s ∧ s ≤ 256) by omega) with h0 | h0 | h0
    all_goals
      have HS := Lib.hid hs
      have H0 := Lib.hid h0
      clear h hb hs
    · have a1 : decide (s < 0) = true := decide_eq_true h0
      clear h0
      go_enter Try.func14, Try.ntmps14
      go_wp2_with fail
      refine (fixed_call w).mono ?_
      rintro e w1 ⟨rfl, hb1⟩
      have B1 := Lib.hid hb1
      clear hb1
      go_wp2_with fail
      refine (begin_no w1 s HS.out HB.out).mono ?_
      rintro e w2 ⟨rfl, hb2⟩
      have B2 := Lib.hid (B1.out.trans (hb2.mono B1.out.size))
      clear hb2
      go_wp2_with fail
      go_ret
      exact ⟨rfl, B2.out⟩
    · have a1 : decide (s < 0) = false := decide_eq_false (by omega)
      have a2 : decide (s > 256) = true := decide_eq_true (by omega)
      have a3 : decide (256 < s) = true := decide_eq_true (by omega)
      clear h0
      go_enter Try.func14, Try.ntmps14
      go_wp2_with fail
      refine (fixed_call w).mono ?_
      rintro e w1 ⟨rfl, hb1⟩
      have B1 := Lib.hid hb1
      clear hb1
      go_wp2_with fail
      refine (begin_no w1 s HS.out HB.out).mono ?_
      rintro e w2 ⟨rfl, hb2⟩
      have B2 := Lib.hid (B1.out.trans (hb2.mono B1.out.size))
      clear hb2
      go_wp2_with fail
      go_ret
      exact ⟨rfl, B2.out⟩
    · have a1 : decide (s < 0) = false := decide_eq_false (by omega)
      have a2 : decide (s > 256) = false := decide_eq_false (by omega)
      have a3 : decide (256 < s) = false := decide_eq_false (by omega)
      have a4 : Go.bits .and .i64 s (s - 1) ≠ 0 := bits_wrong (fun e => HH.out ⟨e, by omega⟩) (by omega)
      have a5 : (Go.bits .and .i64 s (s - 1) != 0) = true := bne_iff_ne.2 a4
      clear a4
      go_enter Try.func14, Try.ntmps14
      go_wp2_with fail
      refine (fixed_call w).mono ?_
      rintro e w1 ⟨rfl, hb1⟩
      have B1 := Lib.hid hb1
      clear hb1
      go_wp2_with fail
      refine (begin_no w1 s HS.out HB.out).mono ?_
      rintro e w2 ⟨rfl, hb2⟩
      have B2 := Lib.hid (B1.out.trans (hb2.mono B1.out.size))
      clear hb2
      go_wp2_with fail
      go_ret
      exact ⟨rfl, B2.out⟩
  · have hR : RightN s := Classical.byContradiction fun e => hb (.inl e)
    have h4 : s ≤ 4096 := by omega
    have h5 : 256 < s := by
      by_cases h6 : s ≤ 256
      · exact absurd ⟨hR, h6⟩ h
      · omega
    obtain ⟨k, rfl⟩ : ∃ k : Nat, s = k := ⟨s.toNat, by omega⟩
    have HR := Lib.hid (And.intro hR h4)
    have a2 : decide ((k : Int) > 256) = true := decide_eq_true (by omega)
    have a3 : decide (256 < (k : Int)) = true := decide_eq_true (by omega)
    have hk : (k : Int) ≤ 65536 := by omega
    clear hb hR h4 h5 h hs
    go_enter Try.func14, Try.ntmps14
    go_wp2_with fail
    refine (fixed_call w).mono ?_
    rintro e w1 ⟨rfl, hb1⟩
    have B1 := Lib.hid hb1
    clear hb1
    go_wp2_with fail
    refine (begin_yes w1 k HR.out.1 (by have := HR.out.2; omega)).mono ?_
    rintro e w2 ⟨g, a, cap, q, rfl, hSt⟩
    have B2 := Lib.hid (B1.out.trans (hSt.b.mono B1.out.size))
    clear hSt
    go_wp2_with fail
    go_ret
    exact ⟨rfl, B2.out⟩
theorem nodesFree_any (w : World) (s : Int) (hs : -9223372036854775808 ≤ s ∧ s ≤ 9223372036854775807) (A : Option Addr) (c : Nat) (ops : List OpD) (hr : Kd.C kO w A ops.length ops) (hc : ops.length ≤ c) :
    Calls Try.prog 14 #[.int .i64 s, .slice A ops.length c] w fun e w' => e = .returned (.bool true) ∧ Below w.heap.size w w' := by
  by_cases h : RightN s ∧ s ≤ 256
  · obtain ⟨h1, h2⟩ := h
    have h0 : 0 ≤ s := by
      rcases h1 with e | e
      · omega
      · have := pow_range e; omega
    obtain ⟨k, rfl⟩ : ∃ k : Nat, s = k := ⟨s.toNat, by omega⟩
    exact free_yes w k h1 (by omega) A c ops hr hc
  · exact free_no w s hs h A c ops.length
end Go.Proofs.Ytlmmhlabacghnaa.PH
