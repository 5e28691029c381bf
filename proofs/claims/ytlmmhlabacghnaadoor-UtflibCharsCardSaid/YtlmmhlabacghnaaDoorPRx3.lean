-- Written by a program of this session's (the kit's print, turned), out of the translation.
import Derived.Test.YtlmmhlabacghnaaDoorPRx0
import Derived.Test.YtlmmhlabacghnaaDoorPRx2
namespace Go.Proofs.YtlmmhlabacghnaaDoor.PR
open Go.RowKit Go.Proofs.YtlmmhlabacghnaaDoorW.PrintWords Go.Proofs.YtlmmhlabacghnaaDoorW.PrintLast Go.Proofs.YtlmmhlabacghnaaDoorW.PrintMore
attribute [local go_sem] max2_int min2_int max_two min_two max_three min_three max_four min_four   -- for this text's walks alone
set_option linter.unusedVariables false
set_option linter.unusedSimpArgs false

/-! ### trestleref01_Encode: function 15 -/
def trestleref01_Encode.l0 : Nat → Int → Int → List Int → Int → Option (ByteArray × Int)
  | 0, _, _, _, _ => none
  | k + 1, x0, x4, x5, x6 => if x6 > 0 then (if 0 ≤ x6 then (if x6 < (x5.length : Int) then (trestleref01_Encode.l0 k (wrap64 (Int.tdiv x0 64)) x4 (x5.set (x6 : Int).toNat ((wrap64 (128 + (Int.tmod x0 64))) % 256)) (wrap64 (x6 - 1))) else (none)) else (none)) else (if x4 = 3 then (if x4 = 4 then (if 0 < (x5.length : Int) then (some (strOfNums (x5.set (0 : Int).toNat ((wrap64 (240 + x0)) % 256)), 0)) else (none)) else (if 0 < (x5.length : Int) then (some (strOfNums (x5.set (0 : Int).toNat ((wrap64 (224 + x0)) % 256)), 0)) else (none))) else (if x4 = 4 then (if 0 < (x5.length : Int) then (some (strOfNums (x5.set (0 : Int).toNat ((wrap64 (240 + x0)) % 256)), 0)) else (none)) else (if 0 < (x5.length : Int) then (some (strOfNums (x5.set (0 : Int).toNat ((wrap64 (192 + x0)) % 256)), 0)) else (none))))
def trestleref01_Encode.f (k : Nat) (a0 : Int) : Option (ByteArray × Int) := (trestleref01_good.f a0).bind fun t109 => (if t109 = true then ((trestleref01_bytes.f k a0).bind fun t110 => (if t110 = 1 then (some (strOfNums (([(a0) % 256] : List Int)), 0)) else (if 0 ≤ t110 then (if (t110 : Int).toNat ≤ 281474976710656 then (trestleref01_Encode.l0 k a0 t110 (List.replicate (t110 : Int).toNat 0) (wrap64 (t110 - 1))) else (none)) else (none)))) else (some ((⟨#[]⟩ : ByteArray), 3)))
theorem trestleref01_Encode.mono_l : ∀ k, (∀ y0 y1 y2 y3, LeO (trestleref01_Encode.l0 k y0 y1 y2 y3) (trestleref01_Encode.l0 (k + 1) y0 y1 y2 y3))
  | 0 => fun _ _ _ _ r h => by simp [trestleref01_Encode.l0] at h
  | k + 1 => by
    have ih0 := trestleref01_Encode.mono_l k
    · intro y0 y1 y2 y3
      unfold trestleref01_Encode.l0
      repeat' first
      | (with_reducible exact ih0 _ _ _ _)
      | (with_reducible exact trestleref01_bytes.mono _ _)
      | (with_reducible exact LeO.refl _)
      | (with_reducible exact LeO.none _)
      | (with_reducible refine LeO.ite ?_ ?_)
      | (with_reducible refine LeO.bind ?_ (fun _ => ?_))
      | exact ih0 _ _ _ _
      | exact trestleref01_bytes.mono _ _
      | exact LeO.none _
      | refine LeO.ite ?_ ?_
      | refine LeO.bind ?_ (fun _ => ?_)
theorem trestleref01_Encode.mono : ∀ a0 k, LeO (trestleref01_Encode.f k a0) (trestleref01_Encode.f (k + 1) a0) := by
  intro a0 k
  have ih0 := trestleref01_Encode.mono_l k
  unfold trestleref01_Encode.f
  repeat' first
      | (with_reducible exact ih0 _ _ _ _)
      | (with_reducible exact trestleref01_bytes.mono _ _)
      | (with_reducible exact LeO.refl _)
      | (with_reducible exact LeO.none _)
      | (with_reducible refine LeO.ite ?_ ?_)
      | (with_reducible refine LeO.bind ?_ (fun _ => ?_))
      | exact ih0 _ _ _ _
      | exact trestleref01_bytes.mono _ _
      | exact LeO.none _
      | refine LeO.ite ?_ ?_
      | refine LeO.bind ?_ (fun _ => ?_)
set_option maxHeartbeats 8000000 in
set_option maxRecDepth 100000 in
theorem trestleref01_Encode.calls (k : Nat) (a0 : Int) (r1 : ByteArray) (r2 : Int) (w : World) (h : trestleref01_Encode.f k a0 = some (r1, r2)) :
    Calls Tryd.prog 15 #[.int .i64 a0] w fun e w' => e = .returned (.tuple #[.string r1, .int .i64 r2]) ∧ Below w.heap.size w w' := by
  have HB := Aside0.mk (Below.refl w.heap.size w)
  have H : ((trestleref01_good.f a0).bind fun t109 => (if t109 = true then ((trestleref01_bytes.f k a0).bind fun t110 => (if t110 = 1 then (some (strOfNums (([(a0) % 256] : List Int)), 0)) else (if 0 ≤ t110 then (if (t110 : Int).toNat ≤ 281474976710656 then (trestleref01_Encode.l0 k a0 t110 (List.replicate (t110 : Int).toNat 0) (wrap64 (t110 - 1))) else (none)) else (none)))) else (some ((⟨#[]⟩ : ByteArray), 3)))) = some (r1, r2) := h
  clear h
  replace H := Option.bind_eq_some_iff.mp H
  obtain ⟨t109, A20, H⟩ := H
  replace H : (if t109 = true then ((trestleref01_bytes.f k a0).bind fun t110 => (if t110 = 1 then (some (strOfNums (([(a0) % 256] : List Int)), 0)) else (if 0 ≤ t110 then (if (t110 : Int).toNat ≤ 281474976710656 then (trestleref01_Encode.l0 k a0 t110 (List.replicate (t110 : Int).toNat 0) (wrap64 (t110 - 1))) else (none)) else (none)))) else (some ((⟨#[]⟩ : ByteArray), 3))) = some (r1, r2) := H
  have A2 := Aside0.mk A20
  clear A20
  by_cases c3 : t109 = true
  · subst c3
    have H1 : ((trestleref01_bytes.f k a0).bind fun t110 => (if t110 = 1 then (some (strOfNums (([(a0) % 256] : List Int)), 0)) else (if 0 ≤ t110 then (if (t110 : Int).toNat ≤ 281474976710656 then (trestleref01_Encode.l0 k a0 t110 (List.replicate (t110 : Int).toNat 0) (wrap64 (t110 - 1))) else (none)) else (none)))) = some (r1, r2) := by rw [if_pos rfl] at H; exact H
    clear H
    have H := H1
    clear H1
    replace H := Option.bind_eq_some_iff.mp H
    obtain ⟨t110, A40, H⟩ := H
    replace H : (if t110 = 1 then (some (strOfNums (([(a0) % 256] : List Int)), 0)) else (if 0 ≤ t110 then (if (t110 : Int).toNat ≤ 281474976710656 then (trestleref01_Encode.l0 k a0 t110 (List.replicate (t110 : Int).toNat 0) (wrap64 (t110 - 1))) else (none)) else (none))) = some (r1, r2) := H
    have A4 := Aside0.mk A40
    clear A40
    by_cases c5 : t110 = 1
    · rw [if_pos c5] at H
      have c5b0 : (t110 == 1) = true := beq_iff_eq.mpr c5
      have c5b1 : (t110 != 1) = false := bne_eq_false_iff_eq.mpr c5
      clear c5
      obtain ⟨y111, hy111⟩ : ∃ y_ : List Int, y_ = (([(a0) % 256] : List Int)) := ⟨_, rfl⟩
      replace H : (some (strOfNums y111, 0)) = some (r1, r2) := by first | (rw [hy111]; with_reducible exact H) | (have H2_ := (Option.bind_some _ _).symm.trans H; rw [hy111]; with_reducible exact H2_) | (have H2_ := (Option.bind_some _ _).symm.trans H; with_reducible exact H2_) | with_reducible exact H | (rw [hy111]; exact H) | exact H
      have Ny111 := Aside0.mk hy111
      clear hy111
      simp only [Option.some.injEq, Prod.mk.injEq] at H
      obtain ⟨rfl, rfl⟩ := H
      go_enter Tryd.func15, Tryd.ntmps15
      go_wp2_with (first | ((with_reducible refine gate_callee (f := 45) rfl ?_); refine goesL_ (some 9) rfl rfl Tryd.func45 (by kernel_rfl) rfl #[.int .i64 a0] rfl (by (try simp only [List.map_toArray, List.map_cons, List.map_nil]); first | done | rfl | (simp only [List.length_drop, List.length_take]; rfl)) ?_; (with_reducible refine (trestleref01_good.calls a0 true _ A2.out).mono ?_); rintro e w' ⟨rfl, ⟨nd, rfl⟩⟩; refine ⟨_, rfl, ?_⟩) | ((with_reducible refine gate_callee (f := 46) rfl ?_); refine goesL_ (some 12) rfl rfl Tryd.func46 (by kernel_rfl) rfl #[.int .i64 a0] rfl (by (try simp only [List.map_toArray, List.map_cons, List.map_nil]); first | done | rfl | (simp only [List.length_drop, List.length_take]; rfl)) ?_; (with_reducible refine (trestleref01_bytes.calls k a0 t110 _ A4.out).mono ?_); rintro e w' ⟨rfl, ⟨nd, rfl⟩⟩; refine ⟨_, rfl, ?_⟩) | ((with_reducible refine gate_dst (N := 17) rfl ?_); refine Kd.R_lit (Kd.int .u8) _ 5 ?hg (N := 17) ?hd (xs := ([(a0) % 256] : List Int)) (inner := [.int .u8 ((a0) % 256)]) (ok := fun _ => True) (okp := fun _ => True) ?hr ?hp (fun _ hk => hk) trivial (Below.refl _ _) (Nat.le_refl _) (by simp) ?_; (case hd => rfl); (case hg => rfl); (case hr => first | (go_simp; done) | (go_simp; rfl)); (case hp => exact (Reps.one (show Kd.M (Kd.int .u8) _ _ _ ((a0) % 256) [.int .u8 ((a0) % 256)] from rfl) (Reps.none _ _))); intro v112 w6 ho7 hb hg_ hnew_; clear hg_ hnew_; (first | rw [← Ny111.out] at ho7 | (simp only [Int.reduceToNat] at ho7; rw [← Ny111.out] at ho7)); have n0_ := Aside0.mk (Kd.R_lower ho7 (below_size (by repeat (first | (with_reducible first | exact HB.out | apply below_alloc | apply pw_below_drewN | apply below_drew1) | exact HB.out)))); have n1_ := Aside0.mk (below_step (by repeat (first | (with_reducible first | exact HB.out | apply below_alloc | apply pw_below_drewN | apply below_drew1) | exact HB.out)) hb); clear HB; have HO113 := n0_; have HB := n1_; clear n0_ n1_; clear hb ho7; have hcv8 := own_string (P := Tryd.prog) Tryd.underlying60 Tryd.underlying5 Tryd.underlying9 (Kd.own_of_R HO113.out)))
      go_ret2
      exact ⟨by first | rfl | (simp [errW_none, errW_some] <;> rfl) | (simp [*, errW_none, errW_some] <;> rfl), by repeat (first | (with_reducible first | exact HB.out | apply below_alloc | apply pw_below_drewN | apply below_drew1) | exact HB.out)⟩
    · rw [if_neg c5] at H
      have c5b0 : (t110 == 1) = false := beq_eq_false_iff_ne.mpr c5
      have c5b1 : (t110 != 1) = true := bne_iff_ne.mpr c5
      by_cases c9 : 0 ≤ t110
      · rw [if_pos c9] at H
        have c9b0 := eq_true c9
        have c9b1 : decide (0 ≤ t110) = true := decide_eq_true c9
        clear c9
        by_cases c10 : (t110 : Int).toNat ≤ 281474976710656
        · rw [if_pos c10] at H
          have c10b0 := eq_true c10
          have c10b1 : decide ((t110 : Int).toNat ≤ 281474976710656) = true := decide_eq_true c10
          clear c10
          obtain ⟨y114, hy114⟩ : ∃ y_ : List Int, y_ = (List.replicate (t110 : Int).toNat 0) := ⟨_, rfl⟩
          replace H : (trestleref01_Encode.l0 k a0 t110 y114 (wrap64 (t110 - 1))) = some (r1, r2) := by first | (rw [hy114]; with_reducible exact H) | (have H2_ := (Option.bind_some _ _).symm.trans H; rw [hy114]; with_reducible exact H2_) | (have H2_ := (Option.bind_some _ _).symm.trans H; with_reducible exact H2_) | with_reducible exact H | (rw [hy114]; exact H) | exact H
          have Ny114 := Aside0.mk hy114
          clear hy114
          have H' := Aside0.mk H
          clear H
          go_enter Tryd.func15, Tryd.ntmps15
          go_wp2_with (first | ((with_reducible refine gate_callee (f := 45) rfl ?_); refine goesL_ (some 9) rfl rfl Tryd.func45 (by kernel_rfl) rfl #[.int .i64 a0] rfl (by (try simp only [List.map_toArray, List.map_cons, List.map_nil]); first | done | rfl | (simp only [List.length_drop, List.length_take]; rfl)) ?_; (with_reducible refine (trestleref01_good.calls a0 true _ A2.out).mono ?_); rintro e w' ⟨rfl, ⟨nd, rfl⟩⟩; refine ⟨_, rfl, ?_⟩) | ((with_reducible refine gate_callee (f := 46) rfl ?_); refine goesL_ (some 12) rfl rfl Tryd.func46 (by kernel_rfl) rfl #[.int .i64 a0] rfl (by (try simp only [List.map_toArray, List.map_cons, List.map_nil]); first | done | rfl | (simp only [List.length_drop, List.length_take]; rfl)) ?_; (with_reducible refine (trestleref01_bytes.calls k a0 t110 _ A4.out).mono ?_); rintro e w' ⟨rfl, ⟨nd, rfl⟩⟩; refine ⟨_, rfl, ?_⟩) | ((with_reducible refine gate_dst (N := 20) rfl ?_); refine Kd.R_make (Kd.int .u8) _ 5 rfl (N := 20) rfl 60 _ _ rfl t110 rfl rfl Tryd.underlying60 (.int .u8 0) 1 info5 rfl (by decide) (by omega) 0 (ok := fun _ => True) (okp := fun _ => True) rfl (fun _ hk => hk) trivial (of_decide_eq_true (by first | (with_reducible assumption) | assumption)) (Nat.le_trans (Nat.mul_le_mul_right _ (of_decide_eq_true (by first | (with_reducible assumption) | assumption) : t110.toNat ≤ 281474976710656)) (by omega)) (Below.refl _ _) (Nat.le_refl _) ?_; intro v115 w11 ho12 hb hg_ hnew_; clear hg_ hnew_; (first | rw [← Ny114.out] at ho12 | (simp only [Int.reduceToNat] at ho12; rw [← Ny114.out] at ho12)); have n0_ := Aside0.mk (Kd.R_lower ho12 (below_size (by repeat (first | (with_reducible first | exact HB.out | apply below_alloc | apply pw_below_drewN | apply below_drew1) | exact HB.out)))); have n1_ := Aside0.mk (below_step (by repeat (first | (with_reducible first | exact HB.out | apply below_alloc | apply pw_below_drewN | apply below_drew1) | exact HB.out)) hb); clear HB; have HO116 := n0_; have HB := n1_; clear n0_ n1_; clear hb ho12))
          go_loopg [0, 6] k (fun kq v0 v6 w' => ∃ (x0_1 : Int) (x5_1 : List Int) (x6_1 : Int), v0 = .int .i64 x0_1 ∧ v6 = .int .i64 x6_1 ∧ Aside0 (trestleref01_Encode.l0 kq x0_1 t110 x5_1 x6_1 = some (r1, r2)) ∧ Aside0 (kq ≤ k) ∧ Aside0 (Kd.R (Kd.int .u8) 5 w' w.heap.size (fun _ => True) v115 x5_1) ∧ Aside0 (Below w.heap.size w w'))
          case atStart => exact ⟨(a0), (y114), (wrap64 (t110 - 1)), (by first | rfl | (simp; done) | (simp [*]; done)), (by first | rfl | (simp; done) | (simp [*]; done)), H', ⟨Nat.le_refl _⟩, ⟨by (with_reducible repeat (first | apply Kd.R_alloc | apply Kd.R_drewN | apply Kd.R_drew)); exact HO116.out⟩, ⟨by repeat (first | (with_reducible first | exact HB.out | apply below_alloc | apply pw_below_drewN | apply below_drew1) | exact HB.out)⟩⟩
          case round =>
            clear H'
            try clear c1
            try clear p2
            try clear c3
            try clear c4
            try clear c5
            try clear c5b0
            try clear c5b1
            try clear p6
            try clear hcv8
            try clear c9
            try clear c9b0
            try clear c9b1
            try clear c10
            try clear c10b0
            try clear c10b1
            obtain ⟨x0_1, x5_1, x6_1, rfl, rfl, HA, HK1, HO_5, HB⟩ := hrel
            cases gk with
            | zero => exact absurd HA.out (by simp [trestleref01_Encode.l0])
            | succ k1 =>
              have H := HA.out
              clear HA
              simp only [trestleref01_Encode.l0] at H
              by_cases c13 : x6_1 > 0
              · rw [if_pos c13] at H
                have c13b0 : decide (0 < x6_1) = true := decide_eq_true c13
                clear c13
                by_cases c14 : 0 ≤ x6_1
                · rw [if_pos c14] at H
                  have c14b0 : decide (0 ≤ x6_1) = true := decide_eq_true c14
                  clear c14
                  by_cases c15 : x6_1 < (x5_1.length : Int)
                  · rw [if_pos c15] at H
                    have c15b0 : decide (x6_1 < (x5_1.length : Int)) = true := decide_eq_true c15
                    clear c15
                    obtain ⟨y117, hy117⟩ : ∃ y_ : List Int, y_ = (x5_1.set (x6_1 : Int).toNat ((wrap64 (128 + (Int.tmod x0_1 64))) % 256)) := ⟨_, rfl⟩
                    replace H : (trestleref01_Encode.l0 k1 (wrap64 (Int.tdiv x0_1 64)) t110 y117 (wrap64 (x6_1 - 1))) = some (r1, r2) := by first | (rw [hy117]; with_reducible exact H) | (have H2_ := (Option.bind_some _ _).symm.trans H; rw [hy117]; with_reducible exact H2_) | (have H2_ := (Option.bind_some _ _).symm.trans H; with_reducible exact H2_) | with_reducible exact H | (rw [hy117]; exact H) | exact H
                    have Ny117 := Aside0.mk hy117
                    clear hy117
                    have H' := Aside0.mk H
                    clear H
                    have p16 : 0 ≤ (x6_1 : Int) := of_decide_eq_true (by first | (with_reducible assumption) | assumption)
                    have q16 : (x6_1 : Int) < ((x5_1.length : Int) : Int) := of_decide_eq_true (by first | (with_reducible assumption) | assumption)
                    obtain ⟨go16, co16, eo16, gb16, gl16, cl16, HG16⟩ := Kd.R_form HO_5.out (by omega)
                    (first | cases eo16 | (injection eo16 with ea_ en_ ec_; (first | subst ea_ | (injection ea_ with ea_; subst ea_)); subst ec_; clear en_))
                    have GB16 := Aside0.mk gb16
                    have GG16 := Aside0.mk HG16
                    clear gb16 gl16 HG16
                    obtain ⟨hx16_0, hf16_0⟩ := Kd.R_celln 0 HO_5.out (x6_1 : Int) p16 q16
                    replace p16 := eq_true p16
                    replace q16 := eq_true q16
                    have HP17 := Kd.R_putg HO_5.out (x6_1 : Int) ((wrap64 (128 + (Int.tmod x0_1 64))) % 256)
                    go_wp2_with (first | ((with_reducible refine gate_store (t := 5) (p := 33) rfl ?_); refine store_event (t := 5) (p := 33) (v := ?vo_w18) (w1 := (wr.setCell ⟨go16, (x6_1 : Int).toNat, none⟩ (.int .u8 ((wrap64 (128 + (Int.tmod x0_1 64))) % 256)))) ?hg ?ho ?hn ?hr ?_; (case ho => rfl); (case hg => rfl); (case hn => rfl); (case hr => first | (go_simp; done) | (go_simp; rfl)); intro w18 hw; have hg : wr.grownBy w18 (some go16) := (by rw [hw]; exact HP17.2); have hp_ : Kd.R (Kd.int .u8) 5 w18 w.heap.size (fun _ => True) (.slice (some ⟨go16, 0, none⟩) x5_1.length co16) y117 := (by rw [hw, Ny117.out]; exact HP17.1); clear HP17; have n0_ := Aside0.mk (hp_); have n1_ := Aside0.mk ((by rw [hw]; exact below_set (HB.out) GB16.out : Below w.heap.size w w18)); clear HO_5; clear HB; have HO_5 := n0_; have HB := n1_; clear n0_ n1_; clear hg hw hp_))
                    go_roundg k1
                    case measure => have := HK1.out; omega
                    case rel => exact ⟨(wrap64 (Int.tdiv x0_1 64)), (y117), (wrap64 (x6_1 - 1)), (by first | rfl | (simp; done) | (simp [*]; done)), (by first | rfl | (simp; done) | (simp [*]; done)), H', ⟨by have := HK1.out; omega⟩, ⟨by (with_reducible repeat (first | apply Kd.R_alloc | apply Kd.R_drewN | apply Kd.R_drew)); exact HO_5.out⟩, ⟨by repeat (first | (with_reducible first | exact HB.out | apply below_alloc | apply pw_below_drewN | apply below_drew1) | exact HB.out)⟩⟩
                  · rw [if_neg c15] at H
                    exact absurd H (by simp)
                · rw [if_neg c14] at H
                  exact absurd H (by simp)
              · rw [if_neg c13] at H
                have c13b0 : decide (0 < x6_1) = false := decide_eq_false c13
                clear c13
                by_cases c19 : t110 = 3
                · rw [if_pos c19] at H
                  have c19b0 : (t110 == 3) = true := beq_iff_eq.mpr c19
                  have c19b1 : (t110 != 3) = false := bne_eq_false_iff_eq.mpr c19
                  clear c19
                  by_cases c20 : t110 = 4
                  · rw [if_pos c20] at H
                    have c20b0 : (t110 == 4) = true := beq_iff_eq.mpr c20
                    have c20b1 : (t110 != 4) = false := bne_eq_false_iff_eq.mpr c20
                    clear c20
                    by_cases c21 : 0 < (x5_1.length : Int)
                    · rw [if_pos c21] at H
                      have c21b0 : decide (0 < (x5_1.length : Int)) = true := decide_eq_true c21
                      have c21b1 : decide (0 < x5_1.length) = true := decide_eq_true (by omega)
                      clear c21
                      obtain ⟨y118, hy118⟩ : ∃ y_ : List Int, y_ = (x5_1.set (0 : Int).toNat ((wrap64 (240 + x0_1)) % 256)) := ⟨_, rfl⟩
                      replace H : (some (strOfNums y118, 0)) = some (r1, r2) := by first | (rw [hy118]; with_reducible exact H) | (have H2_ := (Option.bind_some _ _).symm.trans H; rw [hy118]; with_reducible exact H2_) | (have H2_ := (Option.bind_some _ _).symm.trans H; with_reducible exact H2_) | with_reducible exact H | (rw [hy118]; exact H) | exact H
                      have Ny118 := Aside0.mk hy118
                      clear hy118
                      simp only [Option.some.injEq, Prod.mk.injEq] at H
                      obtain ⟨rfl, rfl⟩ := H
                      have p22 : 0 ≤ (0 : Int) := (by omega)
                      have q22 : (0 : Int) < ((x5_1.length : Int) : Int) := of_decide_eq_true (by first | (with_reducible assumption) | assumption)
                      have qi22 : (0 < x5_1.length) = True := eq_true (by omega)
                      obtain ⟨go22, co22, eo22, gb22, gl22, cl22, HG22⟩ := Kd.R_form HO_5.out (by omega)
                      (first | cases eo22 | (injection eo22 with ea_ en_ ec_; (first | subst ea_ | (injection ea_ with ea_; subst ea_)); subst ec_; clear en_))
                      have GB22 := Aside0.mk gb22
                      have GG22 := Aside0.mk HG22
                      clear gb22 gl22 HG22
                      obtain ⟨hx22_0, hf22_0⟩ := Kd.R_celln 0 HO_5.out (0 : Int) p22 q22
                      (try rw [show ((0 : Int)).toNat = 0 from rfl] at hx22_0)
                      (try simp only [Nat.reduceMul, Nat.zero_mul, Nat.zero_add, Nat.reduceAdd] at hx22_0)
                      (try rw [show ((0 : Int)).toNat = 0 from rfl] at hf22_0)
                      (try simp only [Nat.reduceMul, Nat.zero_mul, Nat.zero_add, Nat.reduceAdd] at hf22_0)
                      replace p22 := eq_true p22
                      replace q22 := eq_true q22
                      have HP23 := Kd.R_putg HO_5.out (0 : Int) ((wrap64 (240 + x0_1)) % 256)
                      go_wp2_with (first | ((with_reducible refine gate_store (t := 5) (p := 45) rfl ?_); refine store_event (t := 5) (p := 45) (v := ?vo_w24) (w1 := (wr.setCell ⟨go22, (0 : Int).toNat, none⟩ (.int .u8 ((wrap64 (240 + x0_1)) % 256)))) ?hg ?ho ?hn ?hr ?_; (case ho => rfl); (case hg => rfl); (case hn => rfl); (case hr => first | (go_simp; done) | (go_simp; rfl)); intro w24 hw; have hg : wr.grownBy w24 (some go22) := (by rw [hw]; exact HP23.2); have hp_ : Kd.R (Kd.int .u8) 5 w24 w.heap.size (fun _ => True) (.slice (some ⟨go22, 0, none⟩) x5_1.length co22) y118 := (by rw [hw, Ny118.out]; exact HP23.1); clear HP23; have n0_ := Aside0.mk (hp_); have n1_ := Aside0.mk ((by rw [hw]; exact below_set (HB.out) GB22.out : Below w.heap.size w w24)); clear HO_5; clear HB; have HO_5 := n0_; have HB := n1_; clear n0_ n1_; clear hg hw hp_; have hcv25 := own_string (P := Tryd.prog) Tryd.underlying60 Tryd.underlying5 Tryd.underlying9 (Kd.own_of_R HO_5.out)))
                      go_ret2
                      exact ⟨by first | rfl | (simp [errW_none, errW_some] <;> rfl) | (simp [*, errW_none, errW_some] <;> rfl), by repeat (first | (with_reducible first | exact HB.out | apply below_alloc | apply pw_below_drewN | apply below_drew1) | exact HB.out)⟩
                    · rw [if_neg c21] at H
                      exact absurd H (by simp)
                  · rw [if_neg c20] at H
                    have c20b0 : (t110 == 4) = false := beq_eq_false_iff_ne.mpr c20
                    have c20b1 : (t110 != 4) = true := bne_iff_ne.mpr c20
                    by_cases c26 : 0 < (x5_1.length : Int)
                    · rw [if_pos c26] at H
                      have c26b0 : decide (0 < (x5_1.length : Int)) = true := decide_eq_true c26
                      have c26b1 : decide (0 < x5_1.length) = true := decide_eq_true (by omega)
                      clear c26
                      obtain ⟨y119, hy119⟩ : ∃ y_ : List Int, y_ = (x5_1.set (0 : Int).toNat ((wrap64 (224 + x0_1)) % 256)) := ⟨_, rfl⟩
                      replace H : (some (strOfNums y119, 0)) = some (r1, r2) := by first | (rw [hy119]; with_reducible exact H) | (have H2_ := (Option.bind_some _ _).symm.trans H; rw [hy119]; with_reducible exact H2_) | (have H2_ := (Option.bind_some _ _).symm.trans H; with_reducible exact H2_) | with_reducible exact H | (rw [hy119]; exact H) | exact H
                      have Ny119 := Aside0.mk hy119
                      clear hy119
                      simp only [Option.some.injEq, Prod.mk.injEq] at H
                      obtain ⟨rfl, rfl⟩ := H
                      have p27 : 0 ≤ (0 : Int) := (by omega)
                      have q27 : (0 : Int) < ((x5_1.length : Int) : Int) := of_decide_eq_true (by first | (with_reducible assumption) | assumption)
                      have qi27 : (0 < x5_1.length) = True := eq_true (by omega)
                      obtain ⟨go27, co27, eo27, gb27, gl27, cl27, HG27⟩ := Kd.R_form HO_5.out (by omega)
                      (first | cases eo27 | (injection eo27 with ea_ en_ ec_; (first | subst ea_ | (injection ea_ with ea_; subst ea_)); subst ec_; clear en_))
                      have GB27 := Aside0.mk gb27
                      have GG27 := Aside0.mk HG27
                      clear gb27 gl27 HG27
                      obtain ⟨hx27_0, hf27_0⟩ := Kd.R_celln 0 HO_5.out (0 : Int) p27 q27
                      (try rw [show ((0 : Int)).toNat = 0 from rfl] at hx27_0)
                      (try simp only [Nat.reduceMul, Nat.zero_mul, Nat.zero_add, Nat.reduceAdd] at hx27_0)
                      (try rw [show ((0 : Int)).toNat = 0 from rfl] at hf27_0)
                      (try simp only [Nat.reduceMul, Nat.zero_mul, Nat.zero_add, Nat.reduceAdd] at hf27_0)
                      replace p27 := eq_true p27
                      replace q27 := eq_true q27
                      have HP28 := Kd.R_putg HO_5.out (0 : Int) ((wrap64 (224 + x0_1)) % 256)
                      go_wp2_with (first | ((with_reducible refine gate_store (t := 5) (p := 45) rfl ?_); refine store_event (t := 5) (p := 45) (v := ?vo_w29) (w1 := (wr.setCell ⟨go27, (0 : Int).toNat, none⟩ (.int .u8 ((wrap64 (224 + x0_1)) % 256)))) ?hg ?ho ?hn ?hr ?_; (case ho => rfl); (case hg => rfl); (case hn => rfl); (case hr => first | (go_simp; done) | (go_simp; rfl)); intro w29 hw; have hg : wr.grownBy w29 (some go27) := (by rw [hw]; exact HP28.2); have hp_ : Kd.R (Kd.int .u8) 5 w29 w.heap.size (fun _ => True) (.slice (some ⟨go27, 0, none⟩) x5_1.length co27) y119 := (by rw [hw, Ny119.out]; exact HP28.1); clear HP28; have n0_ := Aside0.mk (hp_); have n1_ := Aside0.mk ((by rw [hw]; exact below_set (HB.out) GB27.out : Below w.heap.size w w29)); clear HO_5; clear HB; have HO_5 := n0_; have HB := n1_; clear n0_ n1_; clear hg hw hp_; have hcv30 := own_string (P := Tryd.prog) Tryd.underlying60 Tryd.underlying5 Tryd.underlying9 (Kd.own_of_R HO_5.out)))
                      go_ret2
                      exact ⟨by first | rfl | (simp [errW_none, errW_some] <;> rfl) | (simp [*, errW_none, errW_some] <;> rfl), by repeat (first | (with_reducible first | exact HB.out | apply below_alloc | apply pw_below_drewN | apply below_drew1) | exact HB.out)⟩
                    · rw [if_neg c26] at H
                      exact absurd H (by simp)
                · rw [if_neg c19] at H
                  have c19b0 : (t110 == 3) = false := beq_eq_false_iff_ne.mpr c19
                  have c19b1 : (t110 != 3) = true := bne_iff_ne.mpr c19
                  by_cases c31 : t110 = 4
                  · rw [if_pos c31] at H
                    have c31b0 : (t110 == 4) = true := beq_iff_eq.mpr c31
                    have c31b1 : (t110 != 4) = false := bne_eq_false_iff_eq.mpr c31
                    clear c31
                    by_cases c32 : 0 < (x5_1.length : Int)
                    · rw [if_pos c32] at H
                      have c32b0 : decide (0 < (x5_1.length : Int)) = true := decide_eq_true c32
                      have c32b1 : decide (0 < x5_1.length) = true := decide_eq_true (by omega)
                      clear c32
                      obtain ⟨y120, hy120⟩ : ∃ y_ : List Int, y_ = (x5_1.set (0 : Int).toNat ((wrap64 (240 + x0_1)) % 256)) := ⟨_, rfl⟩
                      replace H : (some (strOfNums y120, 0)) = some (r1, r2) := by first | (rw [hy120]; with_reducible exact H) | (have H2_ := (Option.bind_some _ _).symm.trans H; rw [hy120]; with_reducible exact H2_) | (have H2_ := (Option.bind_some _ _).symm.trans H; with_reducible exact H2_) | with_reducible exact H | (rw [hy120]; exact H) | exact H
                      have Ny120 := Aside0.mk hy120
                      clear hy120
                      simp only [Option.some.injEq, Prod.mk.injEq] at H
                      obtain ⟨rfl, rfl⟩ := H
                      have p33 : 0 ≤ (0 : Int) := (by omega)
                      have q33 : (0 : Int) < ((x5_1.length : Int) : Int) := of_decide_eq_true (by first | (with_reducible assumption) | assumption)
                      have qi33 : (0 < x5_1.length) = True := eq_true (by omega)
                      obtain ⟨go33, co33, eo33, gb33, gl33, cl33, HG33⟩ := Kd.R_form HO_5.out (by omega)
                      (first | cases eo33 | (injection eo33 with ea_ en_ ec_; (first | subst ea_ | (injection ea_ with ea_; subst ea_)); subst ec_; clear en_))
                      have GB33 := Aside0.mk gb33
                      have GG33 := Aside0.mk HG33
                      clear gb33 gl33 HG33
                      obtain ⟨hx33_0, hf33_0⟩ := Kd.R_celln 0 HO_5.out (0 : Int) p33 q33
                      (try rw [show ((0 : Int)).toNat = 0 from rfl] at hx33_0)
                      (try simp only [Nat.reduceMul, Nat.zero_mul, Nat.zero_add, Nat.reduceAdd] at hx33_0)
                      (try rw [show ((0 : Int)).toNat = 0 from rfl] at hf33_0)
                      (try simp only [Nat.reduceMul, Nat.zero_mul, Nat.zero_add, Nat.reduceAdd] at hf33_0)
                      replace p33 := eq_true p33
                      replace q33 := eq_true q33
                      have HP34 := Kd.R_putg HO_5.out (0 : Int) ((wrap64 (240 + x0_1)) % 256)
                      go_wp2_with (first | ((with_reducible refine gate_store (t := 5) (p := 45) rfl ?_); refine store_event (t := 5) (p := 45) (v := ?vo_w35) (w1 := (wr.setCell ⟨go33, (0 : Int).toNat, none⟩ (.int .u8 ((wrap64 (240 + x0_1)) % 256)))) ?hg ?ho ?hn ?hr ?_; (case ho => rfl); (case hg => rfl); (case hn => rfl); (case hr => first | (go_simp; done) | (go_simp; rfl)); intro w35 hw; have hg : wr.grownBy w35 (some go33) := (by rw [hw]; exact HP34.2); have hp_ : Kd.R (Kd.int .u8) 5 w35 w.heap.size (fun _ => True) (.slice (some ⟨go33, 0, none⟩) x5_1.length co33) y120 := (by rw [hw, Ny120.out]; exact HP34.1); clear HP34; have n0_ := Aside0.mk (hp_); have n1_ := Aside0.mk ((by rw [hw]; exact below_set (HB.out) GB33.out : Below w.heap.size w w35)); clear HO_5; clear HB; have HO_5 := n0_; have HB := n1_; clear n0_ n1_; clear hg hw hp_; have hcv36 := own_string (P := Tryd.prog) Tryd.underlying60 Tryd.underlying5 Tryd.underlying9 (Kd.own_of_R HO_5.out)))
                      go_ret2
                      exact ⟨by first | rfl | (simp [errW_none, errW_some] <;> rfl) | (simp [*, errW_none, errW_some] <;> rfl), by repeat (first | (with_reducible first | exact HB.out | apply below_alloc | apply pw_below_drewN | apply below_drew1) | exact HB.out)⟩
                    · rw [if_neg c32] at H
                      exact absurd H (by simp)
                  · rw [if_neg c31] at H
                    have c31b0 : (t110 == 4) = false := beq_eq_false_iff_ne.mpr c31
                    have c31b1 : (t110 != 4) = true := bne_iff_ne.mpr c31
                    by_cases c37 : 0 < (x5_1.length : Int)
                    · rw [if_pos c37] at H
                      have c37b0 : decide (0 < (x5_1.length : Int)) = true := decide_eq_true c37
                      have c37b1 : decide (0 < x5_1.length) = true := decide_eq_true (by omega)
                      clear c37
                      obtain ⟨y121, hy121⟩ : ∃ y_ : List Int, y_ = (x5_1.set (0 : Int).toNat ((wrap64 (192 + x0_1)) % 256)) := ⟨_, rfl⟩
                      replace H : (some (strOfNums y121, 0)) = some (r1, r2) := by first | (rw [hy121]; with_reducible exact H) | (have H2_ := (Option.bind_some _ _).symm.trans H; rw [hy121]; with_reducible exact H2_) | (have H2_ := (Option.bind_some _ _).symm.trans H; with_reducible exact H2_) | with_reducible exact H | (rw [hy121]; exact H) | exact H
                      have Ny121 := Aside0.mk hy121
                      clear hy121
                      simp only [Option.some.injEq, Prod.mk.injEq] at H
                      obtain ⟨rfl, rfl⟩ := H
                      have p38 : 0 ≤ (0 : Int) := (by omega)
                      have q38 : (0 : Int) < ((x5_1.length : Int) : Int) := of_decide_eq_true (by first | (with_reducible assumption) | assumption)
                      have qi38 : (0 < x5_1.length) = True := eq_true (by omega)
                      obtain ⟨go38, co38, eo38, gb38, gl38, cl38, HG38⟩ := Kd.R_form HO_5.out (by omega)
                      (first | cases eo38 | (injection eo38 with ea_ en_ ec_; (first | subst ea_ | (injection ea_ with ea_; subst ea_)); subst ec_; clear en_))
                      have GB38 := Aside0.mk gb38
                      have GG38 := Aside0.mk HG38
                      clear gb38 gl38 HG38
                      obtain ⟨hx38_0, hf38_0⟩ := Kd.R_celln 0 HO_5.out (0 : Int) p38 q38
                      (try rw [show ((0 : Int)).toNat = 0 from rfl] at hx38_0)
                      (try simp only [Nat.reduceMul, Nat.zero_mul, Nat.zero_add, Nat.reduceAdd] at hx38_0)
                      (try rw [show ((0 : Int)).toNat = 0 from rfl] at hf38_0)
                      (try simp only [Nat.reduceMul, Nat.zero_mul, Nat.zero_add, Nat.reduceAdd] at hf38_0)
                      replace p38 := eq_true p38
                      replace q38 := eq_true q38
                      have HP39 := Kd.R_putg HO_5.out (0 : Int) ((wrap64 (192 + x0_1)) % 256)
                      go_wp2_with (first | ((with_reducible refine gate_store (t := 5) (p := 45) rfl ?_); refine store_event (t := 5) (p := 45) (v := ?vo_w40) (w1 := (wr.setCell ⟨go38, (0 : Int).toNat, none⟩ (.int .u8 ((wrap64 (192 + x0_1)) % 256)))) ?hg ?ho ?hn ?hr ?_; (case ho => rfl); (case hg => rfl); (case hn => rfl); (case hr => first | (go_simp; done) | (go_simp; rfl)); intro w40 hw; have hg : wr.grownBy w40 (some go38) := (by rw [hw]; exact HP39.2); have hp_ : Kd.R (Kd.int .u8) 5 w40 w.heap.size (fun _ => True) (.slice (some ⟨go38, 0, none⟩) x5_1.length co38) y121 := (by rw [hw, Ny121.out]; exact HP39.1); clear HP39; have n0_ := Aside0.mk (hp_); have n1_ := Aside0.mk ((by rw [hw]; exact below_set (HB.out) GB38.out : Below w.heap.size w w40)); clear HO_5; clear HB; have HO_5 := n0_; have HB := n1_; clear n0_ n1_; clear hg hw hp_; have hcv41 := own_string (P := Tryd.prog) Tryd.underlying60 Tryd.underlying5 Tryd.underlying9 (Kd.own_of_R HO_5.out)))
                      go_ret2
                      exact ⟨by first | rfl | (simp [errW_none, errW_some] <;> rfl) | (simp [*, errW_none, errW_some] <;> rfl), by repeat (first | (with_reducible first | exact HB.out | apply below_alloc | apply pw_below_drewN | apply below_drew1) | exact HB.out)⟩
                    · rw [if_neg c37] at H
                      exact absurd H (by simp)
        · rw [if_neg c10] at H
          exact absurd H (by simp)
      · rw [if_neg c9] at H
        exact absurd H (by simp)
  · replace c3 := Bool.eq_false_iff.mpr c3
    subst c3
    have H1 : (some ((⟨#[]⟩ : ByteArray), 3)) = some (r1, r2) := by rw [if_neg (show ¬ (false = true) by decide)] at H; exact H
    clear H
    have H := H1
    clear H1
    simp only [Option.some.injEq, Prod.mk.injEq] at H
    obtain ⟨rfl, rfl⟩ := H
    go_enter Tryd.func15, Tryd.ntmps15
    go_wp2_with (first | ((with_reducible refine gate_callee (f := 45) rfl ?_); refine goesL_ (some 9) rfl rfl Tryd.func45 (by kernel_rfl) rfl #[.int .i64 a0] rfl (by (try simp only [List.map_toArray, List.map_cons, List.map_nil]); first | done | rfl | (simp only [List.length_drop, List.length_take]; rfl)) ?_; (with_reducible refine (trestleref01_good.calls a0 false _ A2.out).mono ?_); rintro e w' ⟨rfl, ⟨nd, rfl⟩⟩; refine ⟨_, rfl, ?_⟩))
    go_ret2
    exact ⟨by first | rfl | (simp [errW_none, errW_some] <;> rfl) | (simp [*, errW_none, errW_some] <;> rfl), by repeat (first | (with_reducible first | exact HB.out | apply below_alloc | apply pw_below_drewN | apply below_drew1) | exact HB.out)⟩

end Go.Proofs.YtlmmhlabacghnaaDoor.PR
