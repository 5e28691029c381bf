/- NodesMemory walked. -/
import Derived.Test.YtlmmhlabacghnaaGG
namespace Go.Proofs.Ytlmmhlabacghnaa.PH
open Go.RowKit Go.Proofs.YtlmmhlabacghnaaW.PrintWords Go.Proofs.YtlmmhlabacghnaaW.PrintLast Go.Proofs.YtlmmhlabacghnaaW.PrintMore
open Go.Proofs.Ytlmmhlabacghnaa.HM
set_option linter.unusedVariables false
set_option linter.unusedSimpArgs false

/-- A dump's row, at D or above, whatever it holds. -/
def WR (D : Nat) (w : World) (v : Value) (n : Nat) : Prop := ∃ xs : List Nd, xs.length = n ∧ Kd.R k67 67 w D (fun k => D ≤ k) v xs
theorem WR.below {D n : Nat} {w w' : World} {v : Value} (h : WR D w v n) (hb : Below w.heap.size w w') : WR D w' v n := by
  obtain ⟨xs, hl, hR⟩ := h
  exact ⟨xs, hl, Kd.R_below hR hb⟩
theorem WR.addr {D n c : Nat} {w : World} {A : Option Addr} (h : WR D w (.slice A n c) n) (hn : 1 ≤ n) : ∃ b, A = some ⟨b, 0, none⟩ := by
  obtain ⟨xs, hl, _, inner, ho, hr⟩ := h
  rcases ho.2 with ⟨h1, h2⟩ | ⟨g, cap, cur, h1, _⟩
  · omega
  · injection h1 with h1
    exact ⟨g, h1⟩
theorem WR.store {ops : Array Oper} {rest : List Oper} {o : Oper} {ac : Act} {Q : Exit → Act → World → Prop} {D b n c : Nat} {W0 W : World} (h : WR D W (.slice (some ⟨b, 0, none⟩) n c) n) (hb : Below D W0 W) (hN : o.dst = none) (hgd : o.guard = none) (p x : Operand) (ho : o.op = .store 67 p x)
    (i : Nat) (hi : i < n) (y : Nd) (hp : ac.eval p = .pointer (some ⟨b, i * 7, none⟩)) (hx : ac.eval x = nv y)
    (hK : ∀ w1, WR D w1 (.slice (some ⟨b, 0, none⟩) n c) n → Below D W0 w1 → wpList Try.prog ops Q rest ac w1) : wpList Try.prog ops Q (o :: rest) ac W := by
  obtain ⟨xs, hl, hR⟩ := h
  refine Kd.R_store k67 (w0 := W0) (W := W) D hN hgd 67 p x ho 67 (i : Int) 0 xs y (nv y) (ncells y) (ncells (nd xs i)) (fun k => D ≤ k) (fun _ => False) hp (by rw [Int.toNat_natCast]; rfl) hx rfl infoNode (by intro q hq; simp [ncells] at hq; rcases hq with rfl | rfl | rfl | rfl | rfl | rfl | rfl <;> rfl) hR (by omega) (by omega) rfl ?cc (show 0 + 7 ≤ 7 by decide) (k67_mkM _ _ _ _) (fun _ hk => hk.elim) hb ?_
  case cc =>
    obtain ⟨ad, e, c0, c1, c2, c3, c4, c5, c6⟩ := at_nd (Kd.R_reads' hR).2.2 i (by omega)
    obtain rfl := Option.some.inj e
    rw [add_blk] at c0 c1 c2 c3 c4 c5 c6
    intro j u hu
    rw [Int.toNat_natCast]
    match j, hu with
    | 0, hu => cases hu; exact c0
    | 1, hu => cases hu; exact c1
    | 2, hu => cases hu; exact c2
    | 3, hu => cases hu; exact c3
    | 4, hu => cases hu; exact c4
    | 5, hu => cases hu; exact c5
    | 6, hu => cases hu; exact c6
    | j + 7, hu => simp [ncells] at hu
  · intro w1 h1 h2 _
    exact hK w1 ⟨_, by rw [List.length_set]; exact hl, h1⟩ h2
theorem same_call (l : List Nd) (hl : l.length ≤ 65536) (A0 : Option Addr) (c0 : Nat) (A1 : Option Addr) (c1 : Nat) (w : World) (h0 : Kd.C k67 w A0 l.length l) (hc0 : l.length ≤ c0) (h1 : Kd.C k89 w A1 l.length (l.map rn)) (hc1 : l.length ≤ c1) :
    Calls Try.prog 56 #[.slice A0 l.length c0, .slice A1 l.length c1] w fun e w' => e = .returned (.bool true) ∧ Below w.heap.size w w' := by
  have hm : (l.map rn).length = l.length := List.length_map ..
  have key : ∀ L : List Rd, L = l.map rn → L.length = l.length → Kd.C k89 w A1 L.length L → L.length ≤ c1 → Calls Try.prog 56 #[.slice A0 l.length c0, .slice A1 L.length c1] w fun e w' => e = .returned (.bool true) ∧ Below w.heap.size w w' := by
    intro L hL _ h2 h3
    exact (trestlelaw07_same.calls (l.length + 1) A0 c0 l A1 c1 L true w h0 hc0 h2 h3 (by rw [hL]; exact same_true l hl)).mono fun e w' ⟨he, nd, hw⟩ => ⟨he, by rw [hw]; exact pw_below_drewN (Below.refl _ _) nd⟩
  obtain ⟨L, hL⟩ : ∃ L, L = l.map rn := ⟨_, rfl⟩
  have hLl : L.length = l.length := by rw [hL, hm]
  have h := key L hL hLl (by rw [hLl, hL]; exact h1) (by rw [hLl]; exact hc1)
  rw [hLl] at h
  exact h
set_option maxHeartbeats 8000000 in
set_option maxRecDepth 100000 in
theorem memory_yes (w : World) (n : Nat) (hn : RightN n) (hs : n ≤ 4096) (A : Option Addr) (c : Nat) (ops : List OpD) (hr : Kd.C kO w A ops.length ops) (hc : ops.length ≤ c) :
    Calls Try.prog 18 #[.int .i64 n, .slice A ops.length c] w fun e w' => e = .returned (.bool true) ∧ Below w.heap.size w w' := by
  have HN := Lib.hid hn
  have HR := Lib.hid hr
  have HC := Lib.hid hc
  have hol : ops.length ≤ 9223372036854775807 := hr.2.1
  clear hn hr hc
  go_enter Try.func18, Try.ntmps18
  go_wp2_with fail
  refine (fixed_call w).mono ?_
  rintro e w1 ⟨rfl, hb1⟩
  have B1 := Lib.hid hb1
  clear hb1
  go_wp2_with fail
  refine (begin_both w1 n HN.out (by omega)).mono ?_
  rintro e w2 ⟨B, g, a, cap, q, bk, bv, bc, rfl, hSt⟩
  have C1 := Lib.hid (Kd.C_below HR.out B1.out)
  have S2 := Lib.hid hSt
  clear hSt
  have hmx : Try.prog.follows .mixedOrders = true := by kernel_rfl
  go_upto_block 0 with (fail)
  go_cut [] (fun wx => ∃ (l : List Nd) (f : Nat) (C : Nat → List Nat), l.length = n ∧ RowKit.Hid (InvC l f C) ∧ RowKit.Hid (Both w1 B g a cap q bk bv bc n n n l f C wx))
  case first =>
    go_wp2_with fail
    go_loopg [8, 9, 10] ops.length (fun kq v8 v9 v10 wr => ∃ (i : Nat) (l : List Nd) (f : Nat) (C : Nat → List Nat), v8 = .int .i64 i ∧ i + kq = ops.length ∧ l.length = n ∧ RowKit.Hid (InvC l f C) ∧ RowKit.Hid (Both w1 B g a cap q bk bv bc n n n l f C wr))
    case atStart => exact ⟨0, _, n, _, rfl, by omega, List.length_replicate, Lib.hid (zeros_invC HN.out), S2⟩
    case round =>
      clear S2
      obtain ⟨i, l, f, C, rfl, hik, hln, hI, hS⟩ := hrel
      have hl4 : (i : Int) ≤ 9223372036854775807 := by omega
      cases gk with
      | zero =>
        have d1 : decide (i < ops.length) = false := decide_eq_false (by omega)
        have d2 : decide ((i : Int) < (ops.length : Int)) = false := decide_eq_false (by omega)
        go_wp2_with fail
        go_meet
        case rel => exact ⟨l, f, C, hln, hI, hS⟩
      | succ k1 =>
        have hlt : i < ops.length := by omega
        have d1 : decide (i < ops.length) = true := decide_eq_true (by omega)
        have d2 : decide ((i : Int) < (ops.length : Int)) = true := decide_eq_true (by omega)
        by_cases h4 : i < 400
        · have d3 : decide ((i : Int) < 400) = true := decide_eq_true (by omega)
          have CO := Kd.C_below C1.out hS.out.st.b
          obtain ⟨ad, hA, o0, o1, o2, o3, o4, o5, o6⟩ := at_op CO i hlt
          have p1 : 0 ≤ (i : Int) := by omega
          have p2 : (i : Int) < (ops.length : Int) := by omega
          replace p1 := eq_true p1
          replace p2 := eq_true p2
          have HH := Lib.hid (And.intro hlt trivial)
          subst hA
          clear hlt CO
          go_upto_block 1 with (fail)
          go_cut [] (fun wx => ∃ (l : List Nd) (f : Nat) (C : Nat → List Nat), l.length = n ∧ RowKit.Hid (InvC l f C) ∧ RowKit.Hid (Both w1 B g a cap q bk bv bc n n n l f C wx))
          case first =>
            go_wp2_with fail
            go_still_tail 11, (by kernel_rfl)
            change wpList _ _ _ _ _ wr.drew
            obtain ⟨l2, f2, C2, at2, r2, x2, hI2, hl2, hF2, hs2, hC⟩ := hI.out.put (od ops i).key (od ops i).val
            have HP := Lib.hid (And.intro hI2 (And.intro hF2 hs2))
            have S3 := Lib.hid (hS.out.below (Below.refl _ _).drew)
            have hx := hC _ g a cap _ S3.out.st.p S3.out.st.b.size
            unfold kv at hx
            clear hI2 hF2 hs2 hC
            go_wp2_with fail
            refine hx.mono ?_
            rintro e w4 ⟨rfl, hI4, hF4⟩
            have S4 := Lib.hid (S3.out.st.put hI4 hF4)
            have R4 := Lib.hid (S3.out.rfar hF4)
            have F4 := Lib.hid (And.intro hI4 hF4)
            clear hx hI4 hF4 o0 o1 o2 o3 o4 o5 o6 hS
            obtain ⟨ad2, hA, o0, o1, o2, o3, o4, o5, o6⟩ := at_op (Kd.C_below C1.out S4.out.b) i HH.out.1
            obtain rfl := Option.some.inj hA
            clear hA
            go_wp2_with fail
            go_still_tail 11, (by kernel_rfl)
            change wpList _ _ _ _ _ w4.drew
            have hy := rput_call (R4.out.below (Below.refl _ _).drew) (Nat.le_trans S3.out.bw F4.out.2.size) hI.out (od ops i).key (od ops i).val HP.out.2.1 HP.out.2.2
            unfold kv at hy
            go_wp2_with fail
            refine hy.mono ?_
            rintro e w5 ⟨rfl, hR5, hb5⟩
            have S5 := Lib.hid (S3.out.put (F4.out.1.below (Below.refl _ _).drew) (F4.out.2.trans (Fr.of_below (Below.refl _ _).drew)) hR5 hb5)
            have hl3 : l2.length = n := hl2.trans hln
            clear hy hR5 hb5 o0 o1 o2 o3 o4 o5 o6 S3 S4 R4 F4
            by_cases h8 : i % 8 = 0
            · go_wp2_with fail
              refine (dump_call S5.out.st.p).mono ?_
              rintro e w6 ⟨v6, rfl, hR6, hb6⟩
              obtain ⟨A6, c6, rfl⟩ := Kd.R_slice hR6
              have D6 : RowKit.Hid (WR w5.heap.size w6 (.slice A6 n c6) n ∧ Below w5.heap.size w5 w6) := Lib.hid ⟨by rw [← hl3]; exact ⟨_, rfl, hR6⟩, hb6⟩
              clear hR6 hb6
              go_wp2_with fail
              go_loopg [10] n (fun kq v10 wr => ∃ k : Nat, v10 = .int .i64 k ∧ k + kq = n ∧ RowKit.Hid (WR w5.heap.size wr (.slice A6 n c6) n ∧ Below w5.heap.size w5 wr))
              case atStart => exact ⟨0, rfl, by omega, D6⟩
              case round =>
                clear D6
                obtain ⟨k, rfl, hk, hD⟩ := hrel
                cases gk with
                | zero =>
                  have d4 : decide (k < n) = false := decide_eq_false (by omega)
                  have d5 : decide ((k : Int) < (n : Int)) = false := decide_eq_false (by omega)
                  go_wp2_with fail
                  go_meet
                  case rel => exact ⟨l2, f2, C2, hl3, Lib.hid HP.out.1, Lib.hid (S5.out.below hD.out.2)⟩
                | succ k2 =>
                  have d4 : decide (k < n) = true := decide_eq_true (by omega)
                  have d5 : decide ((k : Int) < (n : Int)) = true := decide_eq_true (by omega)
                  have hkn : k < n := by omega
                  have hk5 : (k : Int) ≤ 4096 := by omega
                  have s1 : 0 ≤ (k : Int) := by omega
                  have s2 : (k : Int) < (n : Int) := by omega
                  replace s1 := eq_true s1
                  replace s2 := eq_true s2
                  obtain ⟨b, hA⟩ := hD.out.1.addr (by omega)
                  subst hA
                  have HK := Lib.hid (And.intro hk hkn)
                  clear hk hkn
                  go_wp2_with fail
                  refine (trestleref03_I.calls _ 2 _ ⟨#[]⟩ _ rfl).mono ?_
                  rintro e w7 ⟨rfl, hb7⟩
                  have D7 := Lib.hid (And.intro (hD.out.1.below hb7) (hD.out.2.trans (hb7.mono hD.out.2.size)))
                  clear hb7 hD
                  go_wp2_with fail
                  refine (trestleref03_S.calls ⟨#[33]⟩ 3 0 ⟨#[33]⟩ _ rfl).mono ?_
                  rintro e w8 ⟨rfl, hb8⟩
                  have D8 := Lib.hid (And.intro (D7.out.1.below hb8) (D7.out.2.trans (hb8.mono D7.out.2.size)))
                  clear hb8 D7
                  go_wp2_with (refine D8.out.1.store D8.out.2 rfl rfl (.tmp 79) (.tmp 78) rfl k HK.out.2 ⟨⟨2, k, ⟨#[]⟩⟩, ⟨3, 0, ⟨#[33]⟩⟩, 9⟩ rfl rfl ?_)
                  intro w9 h9 hb9
                  have D9 := Lib.hid (And.intro h9 hb9)
                  clear h9 hb9 D8
                  go_wp2_with fail
                  go_roundg k2
                  case measure => omega
                  case rel => exact ⟨k + 1, by go_num, by have := HK.out.1; omega, D9⟩
            · go_wp2_with fail
              go_meet
              case rel => exact ⟨l2, f2, C2, hl3, Lib.hid HP.out.1, S5⟩
          case rest =>
            obtain ⟨l2, f2, C2, hl3, hI2, hS2⟩ := hcut
            go_wp2_with fail
            go_roundg k1
            case measure => omega
            case rel => exact ⟨i + 1, l2, f2, C2, by go_num, by omega, hl3, hI2, hS2⟩
        · have d3 : decide ((i : Int) < 400) = false := decide_eq_false (by omega)
          go_wp2_with fail
          go_meet
          case rel => exact ⟨l, f, C, hln, hI, hS⟩
  case rest =>
    obtain ⟨l, f, C, hln, hI, hS⟩ := hcut
    go_wp2_with fail
    refine (dump_call hS.out.st.p).mono ?_
    rintro e w3 ⟨v, rfl, hR, hb3⟩
    obtain ⟨Ad, cd, rfl, hcd, hC3⟩ := Kd.R_reads hR
    have S3 := Lib.hid (hS.out.below hb3)
    have D3 := Lib.hid hC3
    have HD := Lib.hid hcd
    clear hR hb3 hcd hC3 hS
    go_wp2_with fail
    refine (rdump_call S3.out.rf hI.out).mono ?_
    rintro e w4 ⟨d, rfl, hC4, hb4⟩
    have S4 := Lib.hid (S3.out.below hb4)
    have D4 := Lib.hid (Kd.C_below D3.out hb4)
    have hx := same_call l (by omega) Ad cd (some ⟨d, 0, none⟩) l.length w4 D4.out HD.out hC4 (Nat.le_refl _)
    rw [hln] at hx
    clear hC4 hb4 D3 S3
    go_wp2_with fail
    refine hx.mono ?_
    rintro e w5 ⟨rfl, hb5⟩
    have S5 := Lib.hid (S4.out.below hb5)
    clear hx hb5
    go_wp2_with fail
    go_ret
    exact ⟨rfl, B1.out.trans (S5.out.st.b.mono B1.out.size)⟩
set_option maxHeartbeats 8000000 in
set_option maxRecDepth 100000 in
theorem memory_no (w : World) (s : Int) (hs : -9223372036854775808 ≤ s ∧ s ≤ 9223372036854775807) (h : ¬ (RightN s ∧ s ≤ 4096)) (A : Option Addr) (c n : Nat) :
    Calls Try.prog 18 #[.int .i64 s, .slice A n c] w fun e w' => e = .returned (.bool true) ∧ Below w.heap.size w w' := by
  have hb : ¬ RightN s ∨ 4096 < s := by
    by_cases hR : RightN s
    · exact .inr (by
        by_cases h4 : s ≤ 4096
        · exact absurd ⟨hR, h4⟩ h
        · omega)
    · exact .inl hR
  obtain ⟨r, hr, hrt⟩ := right_any hs
  cases r with
  | false =>
    have HB := Lib.hid hb
    have HS := Lib.hid hs
    have HR := Lib.hid hr
    clear h hb hs hr hrt
    go_enter Try.func18, Try.ntmps18
    go_wp2_with fail
    refine (fixed_call w).mono ?_
    rintro e w1 ⟨rfl, hb1⟩
    have B1 := Lib.hid hb1
    clear hb1
    go_wp2_with fail
    refine (begin_no w1 s HS.out HB.out).mono ?_
    rintro e w2 ⟨rfl, hb2⟩
    have B2 := Lib.hid (B1.out.trans (hb2.mono B1.out.size))
    clear hb2
    go_wp2_with fail
    refine (trestleref07_Right.calls 18 s false _ HR.out).mono ?_
    rintro e w3 ⟨rfl, nd1, rfl⟩
    go_wp2_with fail
    go_ret
    exact ⟨rfl, pw_below_drewN B2.out nd1⟩
  | true =>
    have HB := Lib.hid hb
    have HS := Lib.hid hs
    have HR := Lib.hid hr
    have h2 : 4096 < s := hb.resolve_left (fun e => e (hrt.1 rfl))
    have d1 : decide (s > 4096) = true := decide_eq_true (by omega)
    have d2 : decide (4096 < s) = true := decide_eq_true (by omega)
    clear h hb hs hr hrt h2
    go_enter Try.func18, Try.ntmps18
    go_wp2_with fail
    refine (fixed_call w).mono ?_
    rintro e w1 ⟨rfl, hb1⟩
    have B1 := Lib.hid hb1
    clear hb1
    go_wp2_with fail
    refine (begin_no w1 s HS.out HB.out).mono ?_
    rintro e w2 ⟨rfl, hb2⟩
    have B2 := Lib.hid (B1.out.trans (hb2.mono B1.out.size))
    clear hb2
    go_wp2_with fail
    refine (trestleref07_Right.calls 18 s true _ HR.out).mono ?_
    rintro e w3 ⟨rfl, nd1, rfl⟩
    go_wp2_with fail
    go_ret
    exact ⟨rfl, pw_below_drewN B2.out nd1⟩
theorem nodesMemory_any (w : World) (s : Int) (hs : -9223372036854775808 ≤ s ∧ s ≤ 9223372036854775807) (A : Option Addr) (c : Nat) (ops : List OpD) (hr : Kd.C kO w A ops.length ops) (hc : ops.length ≤ c) :
    Calls Try.prog 18 #[.int .i64 s, .slice A ops.length c] w fun e w' => e = .returned (.bool true) ∧ Below w.heap.size w w' := by
  by_cases h : RightN s ∧ s ≤ 4096
  · obtain ⟨h1, h2⟩ := h
    have h0 : 0 ≤ s := by
      rcases h1 with e | e
      · omega
      · have := pow_range e; omega
    obtain ⟨k, rfl⟩ : ∃ k : Nat, s = k := ⟨s.toNat, by omega⟩
    exact memory_yes w k h1 (by omega) A c ops hr hc
  · exact memory_no w s hs h A c ops.length
end Go.Proofs.Ytlmmhlabacghnaa.PH
