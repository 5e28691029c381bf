/- UtflibBack: the plain law: in a valid text the k-th rune from the end is the (m + 1 - k)-th from the beginning. -/
import Derived.Test.YtlmmhlabacghnaaDoorUV
import Derived.Test.YtlmmhlabacghnaaDoorPRx23
namespace Go.Proofs.YtlmmhlabacghnaaDoor.UP
open Go.RowKit Go.Proofs.YtlmmhlabacghnaaDoor.PR Go.Proofs.YtlmmhlabacghnaaDoor.RuneMath Go.Proofs.YtlmmhlabacghnaaDoor.RA Go.Proofs.YtlmmhlabacghnaaDoor.RX Go.Proofs.YtlmmhlabacghnaaDoor.RJ Go.Proofs.YtlmmhlabacghnaaDoorW.PrintWords Go.Proofs.YtlmmhlabacghnaaDoorW.PrintLast Go.Proofs.YtlmmhlabacghnaaDoorW.PrintMore
set_option linter.unusedVariables false
set_option linter.unusedSimpArgs false

theorem bmod_ok (x : Int) (m : Nat) (h0 : 0 < m) (hm : m ≤ 4611686018427387904) : ∃ q : Nat, q < m ∧ wrap64 (Int.tmod (IntKind.u64.wrap x) (IntKind.u64.wrap (m : Int))) = (q : Int) := by
  rw [IntWalk.u64_in (m : Int) (by omega)]
  have hu : 0 ≤ IntKind.u64.wrap x := by
    show 0 ≤ x % 18446744073709551616
    omega
  rw [Int.tmod_eq_emod_of_nonneg hu]
  have h1 := Int.emod_nonneg (IntKind.u64.wrap x) (show (m : Int) ≠ 0 by omega)
  have h2 := Int.emod_lt_of_pos (IntKind.u64.wrap x) (show 0 < (m : Int) by omega)
  refine ⟨(IntKind.u64.wrap x % (m : Int)).toNat, by omega, ?_⟩
  rw [w64_id _ (by omega) (by omega)]
  omega
theorem means_in (a n : Nat) : meansV (a : Int) n = (a : Int) := by unfold meansV; rw [if_pos (by omega)]
theorem bk_j1 (s : ByteArray) (hs : s.size ≤ 300) (hok : Ok s 0) (x : Int) (k : Nat) (hk : 4 * s.size + 20 ≤ k) : trestlelaw17_UtflibBack.j1 (k + 1) s x = some true := by
  simp only [trestlelaw17_UtflibBack.j1]
  have hl := rs_length s
  have hc : runes_Count.f s = some ((rs s).length : Int) := if_pos (by omega)
  rw [hc, Option.bind_some, w64_id (((rs s).length : Int) + 1) (by omega) (by omega)]
  obtain ⟨q, hq, hqe⟩ := bmod_ok x ((rs s).length + 1) (by omega) (by omega)
  rw [show (((rs s).length + 1 : Nat) : Int) = ((rs s).length : Int) + 1 by omega] at hqe
  have hu : IntKind.u64.wrap (((rs s).length : Int) + 1) = ((rs s).length : Int) + 1 := IntWalk.u64_in _ (by omega)
  rw [hqe, hu, if_neg (by omega), w64_id (1 + (q : Int)) (by omega) (by omega), w64_id (-(1 + (q : Int))) (by omega) (by omega), w64_id ((s.size : Int) + 1) (by omega) (by omega), w64_id _ (by omega) (by omega)]
  -- from the end
  have hall := from_bytes s (rs s) 0 (Nat.zero_le _) rfl
  rw [Nat.zero_add] at hall
  have hend : inB s (s.size + 1) = false := decide_eq_false (by omega)
  have e1 : offA s (-(1 + (q : Int))) ((s.size : Int) + 1) = if q + 1 ≤ (rs s).length then (((bytes3 ((rs s).take ((rs s).length - (q + 1))) + 1 : Nat) : Int), true, 0) else (0, false, 0) := by
    unfold offA
    rw [if_neg (by omega), if_neg (by omega), show ((s.size : Int) + 1).toNat = s.size + 1 by omega, hend, if_neg (by decide), if_pos (by omega)]
    have := neg_ok s (by omega) hok _ (rs s) [] (q + 1) (s.size + 1) rfl (by simp) (by omega)
    rw [hall] at this
    rw [show -(1 + (q : Int)) = -((q + 1 : Nat) : Int) by omega]
    exact this
  have mm : meansV ((s.size : Int) + 1) s.size = (s.size : Int) + 1 := by unfold meansV; rw [if_pos (by omega)]
  rw [offset_prog s (by omega) _ _ (by omega) (by omega) k hk, Option.bind_some, mm, e1]
  by_cases hgt : q + 1 ≤ (rs s).length
  · rw [if_pos hgt, if_neg (show ¬ 1 + (q : Int) > ((rs s).length : Int) by omega)]
    have hb0 : inB s (0 + 1) = false := ok_begin (by omega) hok
    obtain ⟨d, hd⟩ : ∃ d : Nat, (rs s).length = q + 1 + d := ⟨(rs s).length - (q + 1), by omega⟩
    have hdd : (rs s).length - (q + 1) = d := by omega
    rw [hdd]
    -- from the beginning
    have e2 : offA s (((rs s).length : Int) + 1 - (1 + (q : Int))) 1 = (((bytes3 ((rs s).take d) + 1 : Nat) : Int), true, 0) := by
      unfold offA
      rw [if_neg (by omega), if_neg (by omega), show (1 : Int).toNat = 0 + 1 by rfl, hb0, if_neg (by decide), if_neg (by omega)]
      have := pos_ok s (by omega) (rs s) 0 d (s.size + 1) rfl hok (Nat.zero_le _) (by omega)
      rw [if_pos (by omega)] at this
      rw [show ((rs s).length : Int) + 1 - (1 + (q : Int)) - 1 = (d : Int) by omega, this, Nat.zero_add]
    have e3 : offA s 0 (((bytes3 ((rs s).take d) + 1 : Nat) : Int)) = (((bytes3 ((rs s).take d) + 1 : Nat) : Int), true, 0) := by
      have hsp : rs s = (rs s).take d ++ (rs s).drop d := (List.take_append_drop d _).symm
      have hokd := ok_split hok (show from_ s 0 = _ from hsp)
      rw [Nat.zero_add] at hokd
      have hle : bytes3 ((rs s).take d) ≤ s.size := by
        have : bytes3 (rs s) = bytes3 ((rs s).take d) + bytes3 ((rs s).drop d) := by
          conv => lhs; rw [hsp]
          unfold bytes3
          rw [List.map_append, List.sum_append]
        omega
      unfold offA
      rw [if_neg (by omega), if_pos rfl, Int.toNat_natCast, back_self (by omega) hokd]
    have m1 : meansV 1 s.size = 1 := rfl
    rw [offset_prog s (by omega) _ 1 (by omega) (by omega) k hk, Option.bind_some, m1, e2]
    dsimp only
    have hle : bytes3 ((rs s).take d) ≤ s.size := by
      have hsp : rs s = (rs s).take d ++ (rs s).drop d := (List.take_append_drop d _).symm
      have : bytes3 (rs s) = bytes3 ((rs s).take d) + bytes3 ((rs s).drop d) := by
        conv => lhs; rw [hsp]
        unfold bytes3
        rw [List.map_append, List.sum_append]
      omega
    rw [offset_prog s (by omega) 0 _ (by omega) (by omega) k hk, Option.bind_some, means_in, e3]
    dsimp only
    rw [if_pos rfl, if_pos rfl, if_pos rfl, if_pos rfl, if_pos rfl, if_pos rfl, if_pos rfl]
    simp
  · rw [if_neg hgt, if_pos (show 1 + (q : Int) > ((rs s).length : Int) by omega)]
    rfl
theorem bk_j0 (s : ByteArray) (hs : s.size ≤ 300) (x : Int) (k : Nat) (hk : 4 * s.size + 20 ≤ k) : trestlelaw17_UtflibBack.j0 (k + 2) s x = some true := by
  simp only [trestlelaw17_UtflibBack.j0]
  rw [ref_bad s (by omega) (k + 1) (by omega), Option.bind_some]
  rcases trim s with ⟨h1, h2⟩ | ⟨b, h1, h2, h3⟩
  · rw [h1, if_neg (by decide)]
    exact bk_j1 s hs h2 x k hk
  · rw [h1, if_pos (by omega), if_pos (by omega), if_pos (by omega), Int.toNat_natCast]
    have hsz : (s.extract 0 b).size = b := by simp; omega
    exact bk_j1 _ (by omega) h3 x k (by omega)
theorem utflibBack : trestlelaw17_UtflibBack.Pure := by
  intro s x hs hx
  refine ⟨1400 + 20, ?_⟩
  unfold trestlelaw17_UtflibBack.f
  rw [fixed_ok, Option.bind_some, if_pos rfl]
  by_cases h : (s.size : Int) > 300
  · rw [if_pos h, if_pos (by decide), if_pos (by omega)]
    have hsz : (s.extract 0 300).size = 300 := by simp; omega
    exact bk_j0 _ (by omega) x 1418 (by omega)
  · rw [if_neg h]
    exact bk_j0 s (by omega) x 1418 (by omega)
end Go.Proofs.YtlmmhlabacghnaaDoor.UP
