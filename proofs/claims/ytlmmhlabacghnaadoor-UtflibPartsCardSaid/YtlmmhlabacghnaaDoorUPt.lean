/- UtflibParts: the plain law: the runes up to a rune's place and those from it on are all. -/
import Derived.Test.YtlmmhlabacghnaaDoorUV
import Derived.Test.YtlmmhlabacghnaaDoorPRx22
namespace Go.Proofs.YtlmmhlabacghnaaDoor.UP
open Go.RowKit Go.Proofs.YtlmmhlabacghnaaDoor.PR Go.Proofs.YtlmmhlabacghnaaDoor.RuneMath Go.Proofs.YtlmmhlabacghnaaDoor.RA Go.Proofs.YtlmmhlabacghnaaDoor.RX Go.Proofs.YtlmmhlabacghnaaDoor.RJ Go.Proofs.YtlmmhlabacghnaaDoorW.PrintWords Go.Proofs.YtlmmhlabacghnaaDoorW.PrintLast Go.Proofs.YtlmmhlabacghnaaDoorW.PrintMore
set_option linter.unusedVariables false
set_option linter.unusedSimpArgs false

theorem mod_ok (x : Int) (m : Nat) (h0 : 0 < m) (hm : m ≤ 4611686018427387904) : ∃ q : Nat, q < m ∧ wrap64 (Int.tmod (IntKind.u64.wrap x) (IntKind.u64.wrap (m : Int))) = (q : Int) := by
  rw [IntWalk.u64_in (m : Int) (by omega)]
  have hu : 0 ≤ IntKind.u64.wrap x := by
    show 0 ≤ x % 18446744073709551616
    omega
  rw [Int.tmod_eq_emod_of_nonneg hu]
  have h1 := Int.emod_nonneg (IntKind.u64.wrap x) (show (m : Int) ≠ 0 by omega)
  have h2 := Int.emod_lt_of_pos (IntKind.u64.wrap x) (show 0 < (m : Int) by omega)
  refine ⟨(IntKind.u64.wrap x % (m : Int)).toNat, by omega, ?_⟩
  rw [w64_id _ (by omega) (by omega)]
  omega
theorem len_some (s : ByteArray) (i j : Int) (hs : s.size ≤ 140737488351232) : utflib_Len.f s i j = some (lenV s (meansV i s.size) (meansV j s.size)) := if_pos (by omega)
theorem lenV_in (s : ByteArray) (A : Nat) (b : Int) (hA : A ≤ s.size) (hb : b ≤ s.size) : lenV s ((A : Int) + 1) b = lenL (spanL s A b) := by
  unfold lenV
  rw [if_neg (by omega), show ((A : Int) + 1 - 1).toNat = A by omega]
theorem pt_j1 (s : ByteArray) (hs : s.size ≤ 300) (hok : Ok s 0) (x : Int) (k : Nat) (hk : s.size + 13 ≤ k) : trestlelaw17_UtflibParts.j1 (k + 1) s x = some true := by
  simp only [trestlelaw17_UtflibParts.j1]
  rw [ref_list s (by omega) k hk, Option.bind_some, List.length_map]
  have hl := rs_length s
  by_cases h0 : (rs s).length = 0
  · have h0' : rs s = [] := List.length_eq_zero_iff.1 h0
    have hb := from_bytes s [] 0 (Nat.zero_le _) h0'
    simp only [bytes3, List.map_nil, List.sum_nil] at hb
    rw [if_pos (show (((rs s).length : Nat) : Int) = 0 by omega), len_some s 1 0 (by omega), Option.bind_some]
    have e : lenV s (meansV 1 s.size) (meansV 0 s.size) = (0, 0, 0) := by
      show lenV s ((0 : Nat) + 1 : Int) 0 = _
      rw [lenV_in s 0 0 (Nat.zero_le _) (by omega), spanL_late s 0 0 (by omega)]
      rfl
    rw [e]
    rfl
  · rw [if_neg (show ¬ (((rs s).length : Nat) : Int) = 0 by omega)]
    obtain ⟨q, hq, hqe⟩ := mod_ok x (rs s).length (by omega) (by omega)
    have hu : IntKind.u64.wrap (((rs s).length : Nat) : Int) = ((rs s).length : Int) := IntWalk.u64_in _ (by omega)
    rw [hqe, hu, if_neg (show ¬ (((rs s).length : Nat) : Int) = 0 by omega), if_pos (show 0 ≤ (q : Int) by omega), if_pos (show (q : Int) < (((rs s).length : Nat) : Int) by omega)]
    obtain ⟨pre, r, suf, hr, hpl⟩ : ∃ pre r suf, rs s = pre ++ r :: suf ∧ pre.length = q := ⟨(rs s).take q, (rs s)[q], (rs s).drop (q + 1), by rw [List.getElem_cons_drop]; exact (List.take_append_drop q _).symm, by simp; omega⟩
    obtain ⟨n1, n2, n3⟩ := scan_next s _ _ pre suf r hr
    rw [Nat.zero_add] at n1
    have hrd : (rd_T32 ((rs s).map toR) (q : Int)).f0 = (r.1 : Int) := by
      rw [hr, ← hpl, rd_r]
      rfl
    rw [hrd, w64_id ((r.1 : Int) + 1) (by omega) (by omega), w64_id ((r.1 : Int) + 1 - 1) (by omega) (by omega), w64_id ((r.1 : Int) + 1 - (s.size : Int)) (by omega) (by omega), w64_id ((r.1 : Int) + 1 - (s.size : Int) - 1) (by omega) (by omega)]
    have hlen : (rs s).length = pre.length + (suf.length + 1) := by rw [hr]; simp
    have hsplit := from_split s pre (r :: suf) 0 hr
    rw [Nat.zero_add, ← n1] at hsplit
    -- the three counts
    have e1 : lenV s (meansV 1 s.size) (meansV ((r.1 : Int) + 1 - 1) s.size) = ((pre.length : Int), 0, 0) := by
      rw [show meansV ((r.1 : Int) + 1 - 1) s.size = (r.1 : Int) by unfold meansV; rw [if_pos (by omega)]; omega]
      show lenV s ((0 : Nat) + 1 : Int) (r.1 : Int) = _
      rw [lenV_in s 0 _ (Nat.zero_le _) (by omega)]
      have hsp : spanL s 0 (r.1 : Int) = pre := by
        unfold spanL
        rw [show from_ s 0 = pre ++ r :: suf from hr]
        refine upto_part _ _ _ (fun y hy => ?_) (fun y hy => ?_)
        · obtain ⟨a, b, hab⟩ := List.append_of_mem hy
          obtain ⟨m1, m2, m3⟩ := scan_next s _ _ a (b ++ r :: suf) y (hr.trans (by rw [hab]; simp))
          have : bytes3 pre = bytes3 a + (y.2.1 + bytes3 b) := by rw [hab]; simp [bytes3]
          omega
        · simp at hy
          subst hy
          omega
      rw [hsp, lenL_ok pre fun y hy => hok y (show y ∈ rs s by rw [hr]; exact List.mem_append_left _ hy)]
    have hok2 : ∀ y ∈ from_ s r.1, inv y = false := fun y hy => hok y (show y ∈ rs s by rw [hr]; rw [hsplit] at hy; exact List.mem_append_right _ hy)
    have e2 : lenV s ((r.1 : Int) + 1) (s.size : Int) = (((suf.length + 1 : Nat) : Int), 0, 0) := by
      rw [lenV_in s r.1 _ (by omega) (Int.le_refl _), span_all, lenL_ok _ hok2, hsplit]
      simp
    have m1 : meansV ((r.1 : Int) + 1) s.size = (r.1 : Int) + 1 := by unfold meansV; rw [if_pos (by omega)]
    have m2 : meansV (s.size : Int) s.size = (s.size : Int) := by unfold meansV; rw [if_pos (by omega)]
    have m3 : meansV ((r.1 : Int) + 1 - (s.size : Int) - 1) s.size = (r.1 : Int) + 1 := by unfold meansV; rw [if_neg (by omega), if_pos (by omega)]; omega
    have m4 : meansV (-1) s.size = (s.size : Int) := by unfold meansV; rw [if_neg (by omega), if_pos (by omega)]; omega
    rw [len_some s _ _ (by omega), Option.bind_some, len_some s _ _ (by omega), Option.bind_some, len_some s _ _ (by omega), Option.bind_some, m3, m4, m1, m2, e1, e2]
    dsimp only
    rw [if_pos rfl, if_pos rfl, if_pos rfl, if_pos (show wrap64 (wrap64 (0 + 0) + 0) = 0 by simp [wrap64]), w64_id ((pre.length : Int) + ((suf.length + 1 : Nat) : Int)) (by omega) (by omega), if_pos (by omega)]
    simp
theorem pt_j0 (s : ByteArray) (hs : s.size ≤ 300) (x : Int) (k : Nat) (hk : s.size + 13 ≤ k) : trestlelaw17_UtflibParts.j0 (k + 2) s x = some true := by
  simp only [trestlelaw17_UtflibParts.j0]
  rw [ref_bad s (by omega) (k + 1) (by omega), Option.bind_some]
  rcases trim s with ⟨h1, h2⟩ | ⟨b, h1, h2, h3⟩
  · rw [h1, if_neg (by decide)]
    exact pt_j1 s hs h2 x k hk
  · rw [h1, if_pos (by omega), if_pos (by omega), if_pos (by omega), Int.toNat_natCast]
    have hsz : (s.extract 0 b).size = b := by simp; omega
    exact pt_j1 _ (by omega) h3 x k (by omega)
theorem utflibParts : trestlelaw17_UtflibParts.Pure := by
  intro s x hs hx
  refine ⟨400 + 20, ?_⟩
  unfold trestlelaw17_UtflibParts.f
  rw [fixed_ok, Option.bind_some, if_pos rfl]
  by_cases h : (s.size : Int) > 300
  · rw [if_pos h, if_pos (by decide), if_pos (by omega)]
    have hsz : (s.extract 0 300).size = 300 := by simp; omega
    exact pt_j0 _ (by omega) x 418 (by omega)
  · rw [if_neg h]
    exact pt_j0 s (by omega) x 418 (by omega)
end Go.Proofs.YtlmmhlabacghnaaDoor.UP
