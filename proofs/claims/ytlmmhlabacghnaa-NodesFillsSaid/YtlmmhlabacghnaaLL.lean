/- NodesFills walked. -/
import Derived.Test.YtlmmhlabacghnaaNK
import Derived.Deep.CutBlock
import Derived.Laws.IdiomStrings
namespace Go.Proofs.Ytlmmhlabacghnaa.PH
open Go.RowKit Go.Proofs.YtlmmhlabacghnaaW.PrintWords Go.Proofs.YtlmmhlabacghnaaW.PrintLast Go.Proofs.YtlmmhlabacghnaaW.PrintMore
open Go.Proofs.Ytlmmhlabacghnaa.HM
set_option linter.unusedVariables false
set_option linter.unusedSimpArgs false

/-- The key of two bytes. -/
def kS (i : Nat) : Ky := ⟨3, 0, ⟨#[UInt8.ofNat i, UInt8.ofNat (i / 256)]⟩⟩
/-- All keys that are held are numbers, or keys of two bytes below i. -/
def Mine (l : List Nd) (i : Nat) : Prop := ∀ x u, x.f0 ≠ 0 → has l x u → x.f0 = 2 ∨ ∃ j, j < i ∧ x = kS j
theorem conv_two (w : World) (i : Nat) (hi : i < 256) : (convert 79 9 (.slice (some ⟨w.heap.size, 0, none⟩) 2 2)).run Try.prog (w.alloc (.cells #[.int .u8 (i : Int), .int .u8 ((i : Int) / 256)] 5)) = .ok (.string (kS i).f2) (w.alloc (.cells #[.int .u8 (i : Int), .int .u8 ((i : Int) / 256)] 5)) := by
  have h := run_convert_bytes_back (P := Try.prog) (w.alloc (.cells #[.int .u8 (i : Int), .int .u8 ((i : Int) / 256)] 5)) 79 9 5 ⟨w.heap.size, 0, none⟩ 2 [UInt8.ofNat i, UInt8.ofNat (i / 256)] (by kernel_rfl) (by kernel_rfl) (by kernel_rfl) (fun j hj => by
    have hn := heap_alloc_new w (.cells #[.int .u8 (i : Int), .int .u8 ((i : Int) / 256)] 5)
    have e0 : (UInt8.ofNat i).toNat = i := by simp; omega
    have e1 : (UInt8.ofNat (i / 256)).toNat = i / 256 := by simp; omega
    match j, hj with
    | 0, _ =>
      have := blk_cell hn 0
      show (w.alloc _).cell? ⟨w.heap.size, 0, none⟩ = _
      rw [this]
      show some (Value.int .u8 (i : Int)) = some (.int .u8 ((UInt8.ofNat i).toNat : Int))
      rw [e0]
    | 1, _ =>
      have := blk_cell hn 1
      show (w.alloc _).cell? ⟨w.heap.size, 1, none⟩ = _
      rw [this]
      show some (Value.int .u8 ((i : Int) / 256)) = some (.int .u8 ((UInt8.ofNat (i / 256)).toNat : Int))
      rw [e1]
      congr 2)
  exact h
theorem kS_inj {i j : Nat} (hi : i < 256) (hj : j < 256) (h : kS i = kS j) : i = j := by
  have h1 := congrArg (fun k : Ky => k.f2.data.toList.map UInt8.toNat) h
  simp [kS] at h1
  omega
theorem kS_new {l : List Nd} {i : Nat} (hi : i < 256) (h : Mine l i) : ∀ p, p < l.length → (nd l p).f0 ≠ kS i := by
  intro p hp1 e
  rcases h (kS i) (nd l p).f1 (by show (3 : Int) ≠ 0; decide) ⟨p, hp1, e, rfl⟩ with h1 | ⟨j, hj, h1⟩
  · exact absurd h1 (by show ¬ (3 : Int) = 2; decide)
  · have := kS_inj hi (by omega) h1
    omega
theorem okI (n : Int) : okB (kI n).f0 (kI n).f1 (kI n).f2 = true := by
  show okB 2 n ⟨#[]⟩ = true
  unfold okB
  rw [if_neg (by decide), if_neg (by decide), if_pos rfl]
  decide +kernel
/-- A round puts one more key in. -/
theorem fills_step {l : List Nd} {f : Nat} {K : Ky} {i : Nat} {l' : List Nd} {f' : Nat} {at_ r e : Int} (h : PutP l f K (kI i) l' f' at_ r e) (hc : cnt l = i) (hi : i < l.length) (hM : Mine l i) (hok : okB K.f0 K.f1 K.f2 = true) (h0 : K.f0 ≠ 0) (hK : K.f0 = 2 ∨ K = kS i) (hnew : ∀ p, p < l.length → (nd l p).f0 ≠ K) :
    e = 0 ∧ cnt l' = i + 1 ∧ Mine l' (i + 1) := by
  rcases h.ways with ⟨h1, _⟩ | ⟨_, _, ⟨h1, _⟩ | ⟨_, ⟨p, _, h3, h4, _⟩ | ⟨_, h3, _⟩ | ⟨_, _, ⟨h3, _, h4, h5⟩ | ⟨_, h4, _⟩⟩⟩⟩
  · rcases h1 with h1 | h1
    · rw [hok] at h1; cases h1
    · rw [okI] at h1; cases h1
  · exact absurd h1 h0
  · exact absurd h4 (hnew p h3)
  · exact absurd h3 (by show ¬ (2 : Int) = 0; decide)
  · refine ⟨h3, by omega, fun x u hx hh => ?_⟩
    rcases (h5 x u hx).1 hh with ⟨rfl, _⟩ | h6
    · rcases hK with hK | hK
      · exact .inl hK
      · exact .inr ⟨i, by omega, hK⟩
    · rcases hM x u hx h6 with h7 | ⟨j, h7, h8⟩
      · exact .inl h7
      · exact .inr ⟨j, by omega, h8⟩
  · omega
/-- A full part refuses a new key. -/
theorem fills_full {l : List Nd} {f : Nat} {i : Nat} {l' : List Nd} {f' : Nat} {at_ r e : Int} (h : PutP l f ⟨4, 77, ⟨#[]⟩⟩ (kI 1) l' f' at_ r e) (hc : cnt l = l.length) (hl : 1 ≤ l.length) (hM : Mine l i) : e = 12 ∧ l' = l ∧ f' = 0 := by
  have hok : okB 4 77 ⟨#[]⟩ = true := by decide +kernel
  have hnew : ∀ p, p < l.length → (nd l p).f0 ≠ ⟨4, 77, ⟨#[]⟩⟩ := fun p hp1 e => by
    rcases hM ⟨4, 77, ⟨#[]⟩⟩ (nd l p).f1 (by show (4 : Int) ≠ 0; decide) ⟨p, hp1, e, rfl⟩ with h1 | ⟨j, _, h1⟩
    · exact absurd h1 (by show ¬ (4 : Int) = 2; decide)
    · have := congrArg (fun k : Ky => k.f0) h1
      exact absurd this (by show ¬ (4 : Int) = 3; decide)
  rcases h.ways with ⟨h1, _⟩ | ⟨_, _, ⟨h1, _⟩ | ⟨_, ⟨p, _, h3, h4, _⟩ | ⟨_, h3, _⟩ | ⟨_, _, ⟨_, h3, _⟩ | ⟨h3, _, h4, h5⟩⟩⟩⟩
  · rcases h1 with h1 | h1
    · rw [hok] at h1; cases h1
    · rw [okI] at h1; cases h1
  · exact absurd h1 (by show ¬ (4 : Int) = 0; decide)
  · exact absurd h4 (hnew p h3)
  · exact absurd h3 (by show ¬ (2 : Int) = 0; decide)
  · omega
  · refine ⟨h3, h4, ?_⟩
    rcases h5 with h5 | h5
    · exact h5
    · rw [h5] at hl; simp at hl
theorem nd_zeros (z p : Nat) : nd (List.replicate z zN) p = zN := by
  unfold nd
  rw [List.getD_eq_getElem?_getD, List.getElem?_replicate]
  by_cases hp : p < z
  · rw [if_pos hp]; rfl
  · rw [if_neg hp]; rfl
theorem mine_zero (z : Nat) : cnt (List.replicate z zN) = 0 ∧ Mine (List.replicate z zN) 0 := by
  refine ⟨?_, fun x u hx ⟨p, _, h2, _⟩ => ?_⟩
  · unfold cnt
    rw [List.countP_eq_zero]
    intro p _
    rw [nd_zeros]
    simp [zN, z67, z30]
  · rw [nd_zeros] at h2
    exact absurd (by rw [← h2]; rfl) hx
set_option maxHeartbeats 8000000 in
set_option maxRecDepth 100000 in
theorem nodesFills_any (w : World) (k : Int) (hk : -9223372036854775808 ≤ k ∧ k ≤ 9223372036854775807) (first : Int) (hf : -9223372036854775808 ≤ first ∧ first ≤ 9223372036854775807) (step : Int) (hst : -9223372036854775808 ≤ step ∧ step ≤ 9223372036854775807) :
    Calls Try.prog 17 #[.int .i64 k, .int .i64 first, .int .i64 step] w fun e w' => e = .returned (.bool true) ∧ Below w.heap.size w w' := by
  have HK := Lib.hid (And.intro hk (And.intro hf hst))
  clear hk hf hst
  go_enter Try.func17, Try.ntmps17
  go_wp2_with fail
  refine (fixed_call w).mono ?_
  rintro e w1 ⟨rfl, hb1⟩
  have B1 := Lib.hid hb1
  clear hb1
  have hmx : Try.prog.follows .mixedOrders = true := by kernel_rfl
  go_upto_block 0 with (fail)
  go_cut [7] (fun v7 wx => wx = w1 ∧ ∃ z : Nat, v7 = .int .i64 z ∧ RowKit.Hid (∃ i : Nat, i ≤ 8 ∧ z = 2 ^ i))
  case first =>
    go_wp2_with fail
    go_loopg [7, 8] 8 (fun kq v7 v8 wr => wr = w1 ∧ ∃ i z : Nat, v8 = .int .i64 i ∧ v7 = .int .i64 z ∧ i + kq = 8 ∧ z ≤ 256 ∧ (z = 256 → i = 8) ∧ (i = 8 → z = 256) ∧ RowKit.Hid (z = 2 ^ i))
    case atStart => exact ⟨rfl, 0, 1, rfl, rfl, rfl, by omega, by omega, by omega, Lib.hid rfl⟩
    case round =>
      obtain ⟨rfl, i, z, rfl, rfl, hik, hz, hz1, hz2, HZ⟩ := hrel
      cases gk with
      | zero =>
        have hz8 : z = 256 := hz2 (by omega)
        have HZ8 := Lib.hid (And.intro hz8 (show i ≤ 8 by omega))
        have d1 : decide ((z : Int) < 256) = false := decide_eq_false (by omega)
        have d2 : decide (z < 256) = false := decide_eq_false (by omega)
        clear hz1 hz2 hik hz8
        by_cases hik : (i : Int) < k
        · have d3 : decide ((i : Int) < k) = true := decide_eq_true hik
          have HI := Lib.hid hik
          clear hik
          go_wp2_with fail
          go_meet
          case rel => exact ⟨rfl, z, rfl, Lib.hid ⟨i, HZ8.out.2, HZ.out⟩⟩
        · have d3 : decide ((i : Int) < k) = false := decide_eq_false hik
          have HI := Lib.hid hik
          clear hik
          go_wp2_with fail
          go_meet
          case rel => exact ⟨rfl, z, rfl, Lib.hid ⟨i, HZ8.out.2, HZ.out⟩⟩
      | succ k1 =>
        have hzl : z < 256 := by
          by_cases e : z = 256
          · have := hz1 e; omega
          · omega
        have hi8 : i < 8 := by omega
        have d1 : decide ((z : Int) < 256) = true := decide_eq_true (by omega)
        have d2 : decide (z < 256) = true := decide_eq_true (by omega)
        have H8 := Lib.hid (And.intro hik hi8)
        clear hz1 hz2 hik
        by_cases hik : (i : Int) < k
        · have d3 : decide ((i : Int) < k) = true := decide_eq_true hik
          have HI := Lib.hid hik
          clear hik
          go_wp2_with fail
          go_roundg k1
          case measure => omega
          case rel =>
            have hpow : 2 ^ (i + 1) = 2 ^ i * 2 := Nat.pow_succ 2 i
            have hzz := HZ.out
            have h256 : ∀ j, j < 8 → (2 ^ (j + 1) = 256 → j + 1 = 8) ∧ (j + 1 = 8 → 2 ^ (j + 1) = 256) ∧ 2 ^ (j + 1) ≤ 256 := by decide
            have h3 := h256 i H8.out.2
            refine ⟨rfl, i + 1, z * 2, by go_num, by go_num, by have := H8.out.1; omega, by rw [hzz, ← hpow]; exact h3.2.2, fun e => h3.1 (by rw [hpow, ← hzz]; exact e), fun e => by rw [hzz, ← hpow]; exact h3.2.1 e, Lib.hid (by rw [hzz, hpow])⟩
        · have d3 : decide ((i : Int) < k) = false := decide_eq_false hik
          have HI := Lib.hid hik
          clear hik
          go_wp2_with fail
          go_meet
          case rel => exact ⟨rfl, z, rfl, Lib.hid ⟨i, by omega, HZ.out⟩⟩
  case rest =>
    obtain ⟨rfl, z, rfl, HZ⟩ := hcut
    have hz : 1 ≤ z ∧ z ≤ 256 ∧ Pow z := by
      obtain ⟨i, h1, h2⟩ := HZ.out
      have h3 : ∀ j, j ≤ 8 → 1 ≤ 2 ^ j ∧ 2 ^ j ≤ 256 ∧ Pow ((2 ^ j : Nat) : Int) := by decide
      rw [h2]
      exact h3 i h1
    obtain ⟨hz1, hz2, hzp⟩ := hz
    have HP := Lib.hid hzp
    clear hzp
    go_upto_if 38 with (fail)
    go_cut [2] (fun v2 wx => wx = wc ∧ ∃ st : Int, v2 = .int .i64 st)
    case first =>
      by_cases h0 : step = 0
      · have d1 : (step == 0) = true := beq_iff_eq.2 h0
        go_wp2_with fail
        go_meet
        case rel => exact ⟨rfl, _, rfl⟩
      · have d1 : (step == 0) = false := beq_eq_false_iff_ne.2 h0
        go_wp2_with fail
        go_meet
        case rel => exact ⟨rfl, _, rfl⟩
    case rest =>
      obtain ⟨rfl, st, rfl⟩ := hcut
      go_wp2_with fail
      obtain ⟨wB, rfl⟩ : ∃ wB, wB = wc := ⟨_, rfl⟩
      refine (begin_yes wB z (.inr HP.out) (by omega)).mono ?_
      rintro e w2 ⟨g, a, cap, q, rfl, hSt⟩
      have S2 := Lib.hid hSt
      clear hSt
      go_wp2_with fail
      go_loopg [12, 13, 14, 15, 16, 17, 18] z (fun kq v12 v13 v14 v15 v16 v17 v18 wr => ∃ (i : Nat) (l : List Nd) (f : Nat), v13 = .int .i64 i ∧ v12 = .int .i64 i ∧ i + kq = z ∧ RowKit.Hid (l.length = z) ∧ RowKit.Hid (InvE l f) ∧ RowKit.Hid (cnt l = i ∧ Mine l i) ∧ RowKit.Hid (St wB g a cap l f wr))
      case atStart => exact ⟨0, _, z, rfl, rfl, by omega, Lib.hid List.length_replicate, Lib.hid (zeros_inv (.inr HP.out)), Lib.hid (mine_zero z), S2⟩
      case round =>
        obtain ⟨i, l, f, rfl, rfl, hik, hln, hI, hM, hS⟩ := hrel
        clear S2
        cases gk with
        | zero =>
          have d1 : decide (i < z) = false := decide_eq_false (by omega)
          have d2 : decide ((i : Int) < (z : Int)) = false := decide_eq_false (by omega)
          have HIZ := Lib.hid (show i = z by omega)
          clear hik
          have hcl : cnt l = l.length := by have := hM.out.1; have := HIZ.out; have := hln.out; omega
          have hlz := hln.out
          obtain ⟨l3, f3, at3, r3, x3, hP, hC⟩ := hI.out.put ⟨4, 77, ⟨#[]⟩⟩ (kI 1)
          obtain ⟨rfl, rfl, rfl⟩ := fills_full hP hcl (by omega) hM.out.2
          have HCC := Lib.hid hC
          have HCL := Lib.hid (And.intro hcl hlz)
          have hl5 : (l3.length : Int) ≤ 256 := by omega
          clear hP hC hcl hlz
          go_wp2_with fail
          refine (dump_call hS.out.p).mono ?_
          rintro e w3 ⟨v3, rfl, hR, hb3⟩
          have S3 := Lib.hid (hS.out.below hb3)
          have D3 := Lib.hid (DR.of hR hS.out.lt)
          obtain ⟨Ad, cd, rfl, _, _⟩ := Kd.R_reads hR
          clear hR hb3
          go_wp2_with fail
          refine (trestleref03_T.calls 77 4 77 ⟨#[]⟩ _ rfl).mono ?_
          rintro e w4 ⟨rfl, hb4⟩
          have S4 := Lib.hid (S3.out.below hb4)
          have D4 := Lib.hid (D3.out.below hb4)
          clear hb4 S3 D3
          go_wp2_with fail
          refine (trestleref03_I.calls 1 2 1 ⟨#[]⟩ _ rfl).mono ?_
          rintro e w5 ⟨rfl, hb5⟩
          have S5 := Lib.hid (S4.out.below hb5)
          have D5 := Lib.hid (D4.out.below hb5)
          clear hb5 S4 D4
          go_wp2_with fail
          have hx := HCC.out _ g a cap _ S5.out.p S5.out.b.size
          unfold kv kI at hx
          refine hx.mono ?_
          rintro e w6 ⟨rfl, hI6, hF6⟩
          have S6 := Lib.hid (S5.out.put hI6 hF6)
          have D6 := Lib.hid (D5.out.fr hF6)
          clear hI6 hF6 S5 D5 hx
          go_wp2_with fail
          refine (dump_call S6.out.p).mono ?_
          rintro e w7 ⟨v7, rfl, hR, hb7⟩
          obtain ⟨Ab, cb, rfl, hcb, hC7⟩ := Kd.R_reads hR
          have S7 := Lib.hid (S6.out.below hb7)
          have D7 := Lib.hid (D6.out.below hb7).reads.2
          have E7 := Lib.hid hC7
          clear hR hb7 hcb hC7 S6 D6
          go_wp2_with fail
          refine (free_call S7.out.p).mono ?_
          rintro e w8 ⟨rfl, rfl⟩
          go_wp2_with fail
          go_loopg [23] l3.length (fun kq v23 wr => ∃ j : Nat, v23 = .int .i64 j ∧ j + kq = l3.length ∧ RowKit.Hid (Below w.heap.size w wr) ∧ RowKit.Hid (Kd.C k67 wr Ad l3.length l3) ∧ RowKit.Hid (Kd.C k67 wr Ab l3.length l3))
          case atStart => exact ⟨0, rfl, by omega, Lib.hid (B1.out.trans (S7.out.b.mono B1.out.size)), D7, E7⟩
          case round =>
            clear S7 D7 E7
            obtain ⟨j, rfl, hj, hB, hD, hE⟩ := hrel
            cases gk with
            | zero =>
              have d4 : decide (j < l3.length) = false := decide_eq_false (by omega)
              have d5 : decide ((j : Int) < (l3.length : Int)) = false := decide_eq_false (by omega)
              go_wp2_with fail
              go_ret
              exact ⟨rfl, hB.out⟩
            | succ k2 =>
              have d4 : decide (j < l3.length) = true := decide_eq_true (by omega)
              have d5 : decide ((j : Int) < (l3.length : Int)) = true := decide_eq_true (by omega)
              have hjl : j < l3.length := by omega
              have hz1 : ((nd l3 j).f0.f0 == 0) = false := beq_eq_false_iff_ne.2 (cnt_full HCL.out.1 j hjl)
              have hj5 : (j : Int) ≤ 256 := by omega
              have s1 : 0 ≤ (j : Int) := by omega
              have s2 : (j : Int) < (l3.length : Int) := by omega
              replace s1 := eq_true s1
              replace s2 := eq_true s2
              obtain ⟨ad1, hA, o0, o1, o2, o3, o4, o5, o6⟩ := at_nd hD.out j hjl
              obtain ⟨ad2, hA2, p0, p1, p2, p3, p4, p5, p6⟩ := at_nd hE.out j hjl
              subst hA
              subst hA2
              have HJ := Lib.hid hj
              clear hj hjl
              go_wp2_with fail
              go_quiet (fail)
              go_wp2_with fail
              go_roundg k2
              case measure => omega
              case rel => exact ⟨j + 1, by go_num, by have := HJ.out; omega, Lib.hid (pw_below_drewN hB.out _), Lib.hid (Kd.C_below hD.out (pw_below_drewN (Below.refl _ _) _)), Lib.hid (Kd.C_below hE.out (pw_below_drewN (Below.refl _ _) _))⟩
        | succ k1 =>
          have d1 : decide (i < z) = true := decide_eq_true (by omega)
          have d2 : decide ((i : Int) < (z : Int)) = true := decide_eq_true (by omega)
          have hi5 : (i : Int) < 256 := by omega
          have HIZ := Lib.hid hik
          clear hik
          go_upto_region 17 with (fail)
          go_cut [14] (fun v14 wx => ∃ (X : Int) (G : Nat), v14 = .pointer (some ⟨G, 0, none⟩) ∧ RowKit.Hid (wx.heap[G]? = some (.cells #[.int .i64 2, .int .i64 X, .string (⟨#[]⟩ : ByteArray)] 30 (0, 0))) ∧ RowKit.Hid (G ≠ g ∧ G ≠ a ∧ wB.heap.size ≤ G) ∧ RowKit.Hid (St wB g a cap l f wx))
          case first =>
            go_wp2_with fail
            refine (trestleref03_I.calls _ 2 _ ⟨#[]⟩ _ rfl).mono ?_
            rintro e w3 ⟨rfl, hb3⟩
            have S3 := Lib.hid (hS.out.below hb3)
            clear hb3
            go_wp2_with fail
            go_meet
            case rel =>
              have hlt := S3.out.lt
              exact ⟨_, _, rfl, Lib.hid (heap_alloc_new _ _), Lib.hid ⟨by omega, by omega, S3.out.b.size⟩, Lib.hid (S3.out.below ((Below.refl _ _).alloc (Nat.le_refl _) _))⟩
          case rest =>
            obtain ⟨X, G, rfl, hG, hGa, hS3⟩ := hcut
            obtain ⟨m0, m1, m2⟩ := three_of hG.out
            obtain ⟨at_, r, hF⟩ := hI.out.find (kI X)
            have HF := Lib.hid hF
            clear hF hS
            go_wp2_with fail
            have hx := HF.out.c _ _ _ _ _ _ hS3.out.p
            unfold kv kI at hx
            refine hx.mono ?_
            rintro e w4 ⟨rfl, hb4⟩
            have S4 := Lib.hid (hS3.out.below hb4)
            have G4 := Lib.hid ((hb4.block G (Array.getElem?_eq_some_iff.1 hG.out).1).trans hG.out)
            clear hx hb4 hS3 hG m0 m1 m2
            go_upto_if 65 with (fail)
            go_cut [] (fun wx => ∃ K : Ky, RowKit.Hid (wx.heap[G]? = some (.cells #[.int .i64 K.f0, .int .i64 K.f1, .string K.f2] 30 (0, 0))) ∧ RowKit.Hid (St wB g a cap l f wx) ∧ RowKit.Hid (okB K.f0 K.f1 K.f2 = true ∧ K.f0 ≠ 0 ∧ (K.f0 = 2 ∨ K = kS i) ∧ ∀ p, p < l.length → (nd l p).f0 ≠ K))
            case first =>
              by_cases ha : at_ < 0
              · have q1 : decide (at_ ≥ 0) = false := decide_eq_false (by omega)
                have q2 : decide (0 ≤ at_) = false := decide_eq_false (by omega)
                go_wp2_with fail
                go_meet
                case rel =>
                  refine ⟨kI X, G4, S4, Lib.hid ⟨okI X, by show (2 : Int) ≠ 0; decide, .inl rfl, fun p hp1 e => ?_⟩⟩
                  rcases HF.out.at_ with ⟨_, h2⟩ | ⟨_, _, p2, h2, _⟩
                  · exact h2 p hp1 (by rw [e]; show (2 : Int) ≠ 0; decide) e
                  · omega
              · have q1 : decide (at_ ≥ 0) = true := decide_eq_true (by omega)
                have q2 : decide (0 ≤ at_) = true := decide_eq_true (by omega)
                have u0 := blk_frozen G4.out 0
                have u1 := blk_frozen G4.out 1
                have u2 := blk_frozen G4.out 2
                obtain ⟨m0, m1, m2⟩ := three_of G4.out
                have hcv := conv_two w4 i (by omega)
                have HA := Lib.hid ha
                clear ha
                go_wp2_with fail
                refine (trestleref03_S.calls (kS i).f2 3 0 (kS i).f2 _ rfl).mono ?_
                rintro e w5 ⟨rfl, hb5⟩
                have hb45 := (below_alloc (Below.refl w4.heap.size w4) (.cells #[.int .u8 (i : Int), .int .u8 ((i : Int) / 256)] 5)).trans (hb5.mono (by simp))
                have S5 := Lib.hid (S4.out.below hb45)
                have G5 := Lib.hid ((hb45.block G (Array.getElem?_eq_some_iff.1 G4.out).1).trans G4.out)
                clear hb5 hb45 hcv m0 m1 m2 u0 u1 u2
                have u0 := blk_frozen G5.out 0
                have u1 := blk_frozen G5.out 1
                have u2 := blk_frozen G5.out 2
                obtain ⟨m0, m1, m2⟩ := three_of G5.out
                go_wp2_with fail
                go_meet
                case rel =>
                  obtain ⟨g1, g2, g3⟩ := hGa.out
                  refine ⟨kS i, Lib.hid ?_, Lib.hid ?_, Lib.hid ⟨?_, by show (3 : Int) ≠ 0; decide, .inr rfl, kS_new (by omega) hM.out.2⟩⟩
                  · refine blk_put (cs := #[.int .i64 3, .int .i64 0, .string (⟨#[]⟩ : ByteArray)]) ?_ 2 _ rfl
                    refine blk_put (cs := #[.int .i64 3, .int .i64 X, .string (⟨#[]⟩ : ByteArray)]) ?_ 1 _ rfl
                    exact blk_put (cs := #[.int .i64 2, .int .i64 X, .string (⟨#[]⟩ : ByteArray)]) G5.out 0 _ rfl
                  · exact ((S5.out.far (p := ⟨G, 0, none⟩) g3 g1 g2 _).far (p := ⟨G, 1, none⟩) g3 g1 g2 _).far (p := ⟨G, 2, none⟩) g3 g1 g2 _
                  · have e2 : (kS i).f2.size = 2 := rfl
                    show okB 3 0 (kS i).f2 = true
                    unfold okB
                    simp [e2]
            case rest =>
              obtain ⟨K, hG, hS3, hK⟩ := hcut
              obtain ⟨m0, m1, m2⟩ := three_of hG.out
              clear S4 G4 HF
              go_upto_region 21 with (fail)
              go_cut [17, 18] (fun v17 v18 wx => ∃ (l3 : List Nd) (f3 : Nat) (at3 r3 x3 : Int), v18 = .int .i64 x3 ∧ RowKit.Hid (PutP l f K (kI i) l3 f3 at3 r3 x3) ∧ RowKit.Hid (St wB g a cap l3 f3 wx))
              case first =>
                obtain ⟨l3, f3, at3, r3, x3, hP, hC⟩ := hI.out.put K (kI i)
                have HCC := Lib.hid hC
                have HPP := Lib.hid hP
                clear hC hP
                go_region_with (first | (go_at_call 31; refine (trestleref03_I.calls _ 2 _ ⟨#[]⟩ _ rfl).mono ?_; rintro e w6 ⟨rfl, hb6⟩; have S6 := Lib.hid (hS3.out.below ((Below.refl _ _).drew.trans hb6)); obtain ⟨q0, q1, q2⟩ := three_of ((hb6.block G (Array.getElem?_eq_some_iff.1 hG.out).1).trans hG.out)) | (go_at_call 47; have hx := HCC.out _ g a cap _ S6.out.p S6.out.b.size; unfold kv kI at hx; refine hx.mono ?_; rintro e w8 ⟨rfl, hI8, hF8⟩))
                all_goals
                  have S9 := Lib.hid (S6.out.put hI8 hF8)
                  clear hI8 hF8 hx
                  go_wp2_with fail
                  go_meet
                  case rel => exact ⟨l3, f3, at3, r3, x3, rfl, HPP, S9⟩
              case rest =>
                obtain ⟨l3, f3, at3, r3, x3, rfl, hP, hS9⟩ := hcut
                have hstep := fills_step hP.out hM.out.1 (by have := hln.out; have := HIZ.out; omega) hM.out.2 hK.out.1 hK.out.2.1 hK.out.2.2.1 hK.out.2.2.2
                obtain ⟨hx0, hc3, hM3⟩ := hstep
                subst hx0
                have HM3 := Lib.hid (And.intro hc3 hM3)
                have HL3 := Lib.hid (hP.out.len.trans hln.out)
                clear hc3 hM3 hG hS3 m0 m1 m2
                go_wp2_with fail
                go_roundg k1
                case measure => omega
                case rel => exact ⟨i + 1, l3, f3, by go_num, by go_num, by have := HIZ.out; omega, HL3, Lib.hid hP.out.inv, HM3, hS9⟩
end Go.Proofs.Ytlmmhlabacghnaa.PH
