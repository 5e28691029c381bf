/- RunesLists, in plain numbers: the program's list of runes is the reference's, the first bad byte too, and the text turned. -/
import Derived.Test.YtlmmhlabacghnaaRA
import Derived.Test.YtlmmhlabacghnaaPRx7
namespace Go.Proofs.Ytlmmhlabacghnaa.RX
open Go.RowKit Go.Proofs.Ytlmmhlabacghnaa.PR Go.Proofs.Ytlmmhlabacghnaa.RuneMath Go.Proofs.Ytlmmhlabacghnaa.RA Go.Proofs.YtlmmhlabacghnaaW.PrintWords Go.Proofs.YtlmmhlabacghnaaW.PrintLast
set_option linter.unusedVariables false
set_option linter.unusedSimpArgs false

theorem list_eq (s : ByteArray) (hs : s.size ≤ 5864062014804) : ∀ (f : Nat) (p : Nat) (acc : List R3) (k : Nat), s.size - p ≤ f → f + 13 ≤ k → acc.length ≤ p → p ≤ s.size →
    trestleref01_List.l0 k s (acc.map toR) p = some ((acc ++ scan s f p).map toR)
  | f, p, acc, 0, _, hk, _, _ => by omega
  | 0, p, acc, k + 1, hf, hk, ha, hp => by
    simp only [trestleref01_List.l0, scan, List.append_nil]
    rw [if_neg (by omega)]
  | f + 1, p, acc, k + 1, hf, hk, ha, hp => by
    simp only [trestleref01_List.l0, scan]
    by_cases h : p < s.size
    · obtain ⟨j, rfl⟩ : ∃ j, k = j + 12 := ⟨k - 12, by omega⟩
      have hw := width_pos s p h
      have hf2 := width_fits s p h
      rw [if_pos (by omega), if_pos h, at_eq j s p (by omega) h]
      simp only [Option.bind_some]
      rw [if_pos (by simp; omega), RA.w64_id _ (by omega) (by omega)]
      have ih := list_eq s hs f (p + (Utf8.decode s p).2) (acc ++ [(p, (Utf8.decode s p).2, (Utf8.decode s p).1)]) (j + 12) (by omega) (by omega) (by simp; omega) hf2
      rw [show ((p + (Utf8.decode s p).2 : Nat) : Int) = (p : Int) + ((Utf8.decode s p).2 : Int) by omega] at ih
      rw [List.map_append] at ih
      refine (show _ = _ from ih).trans ?_
      simp
    · rw [if_neg (by omega), if_neg h]
      simp
theorem ref_list (s : ByteArray) (hs : s.size ≤ 5864062014804) (k : Nat) (hk : s.size + 13 ≤ k) : trestleref01_List.f k s = some ((rs s).map toR) := by
  unfold trestleref01_List.f
  have := list_eq s hs s.size 0 [] k (by omega) hk (Nat.le_refl _) (Nat.zero_le _)
  simpa [rs, from_] using this

theorem rd_r (pre rest : List R3) (r : R3) : rd_T48 ((pre ++ r :: rest).map toR) (pre.length : Int) = toR r := by
  simp [rd_T48]
theorem rd_s (pre rest : List R3) (r : R3) : rd_T44 ((pre ++ r :: rest).map toS) (pre.length : Int) = toS r := by
  simp [rd_T44]

theorem bad_l (suf : List R3) : ∀ (pre : List R3) (k : Nat), suf.length + 1 ≤ k → pre.length + suf.length ≤ 5864062014804 → trestleref01_Bad.l0 k ((pre ++ suf).map toR) (pre.length : Int) = some (firstBad suf) := by
  induction suf with
  | nil =>
    intro pre k hk hb
    obtain ⟨k, rfl⟩ : ∃ j, k = j + 1 := ⟨k - 1, by simp at hk; omega⟩
    simp only [trestleref01_Bad.l0]
    rw [if_neg (by simp)]
    rfl
  | cons r suf ih =>
    intro pre k hk hb
    obtain ⟨k, rfl⟩ : ∃ j, k = j + 1 := ⟨k - 1, by simp at hk; omega⟩
    simp only [List.length_cons] at hk hb
    have ih' := ih (pre ++ [r]) k (by omega) (by simp; omega)
    rw [show (pre ++ [r]) ++ suf = pre ++ r :: suf by simp, show ((pre ++ [r]).length : Int) = (pre.length : Int) + 1 by simp] at ih'
    simp only [trestleref01_Bad.l0, firstBad]
    rw [if_pos (by simp; omega), if_pos (by omega), rd_r, RA.w64_id _ (by omega) (by omega), ih']
    unfold inv toR
    by_cases h1 : r.2.2 = 65533
    · by_cases h2 : r.2.1 = 1
      · rw [if_pos (by simp [h1]), if_pos (by simp [h2]), if_pos (by simp [h1, h2])]
      · rw [if_pos (by simp [h1]), if_neg (by simp; omega), if_neg (by simp [h1, h2])]
    · rw [if_neg (by simp; omega), if_neg (by simp [h1])]
theorem ref_bad (s : ByteArray) (hs : s.size ≤ 5864062014804) (k : Nat) (hk : s.size + 13 ≤ k) : trestleref01_Bad.f k s = some (firstBad (rs s)) := by
  unfold trestleref01_Bad.f
  rw [ref_list s hs k hk]
  have hl := rs_length s
  have := bad_l (rs s) [] k (by omega) (by simp; omega)
  simpa using this

theorem ofR_map (l : List R3) : (l.map toR).map ofR = l.map toI := by
  rw [List.map_map]
  rfl
theorem ref_turned (s : ByteArray) (hs : s.size ≤ 5864062014804) (k : Nat) (hk : s.size + 13 ≤ k) : trestleref01_Turned.f k s = some ⟨(turnB s (rs s)).toArray⟩ := by
  unfold trestleref01_Turned.f
  rw [ref_list s hs k hk]
  simp only [Option.bind_some]
  rw [if_pos ⟨ofR_map _, by omega⟩]

theorem same_l (suf : List R3) : ∀ (pre : List R3) (k : Nat), suf.length + 1 ≤ k → pre.length + suf.length ≤ 5864062014804 → trestlelaw01_RunesLists.l0 k ((pre ++ suf).map toS) ((pre ++ suf).map toR) (pre.length : Int) = some true := by
  induction suf with
  | nil =>
    intro pre k hk hb
    obtain ⟨k, rfl⟩ : ∃ j, k = j + 1 := ⟨k - 1, by simp at hk; omega⟩
    simp only [trestlelaw01_RunesLists.l0]
    rw [if_neg (by simp)]
  | cons r suf ih =>
    intro pre k hk hb
    obtain ⟨k, rfl⟩ : ∃ j, k = j + 1 := ⟨k - 1, by simp at hk; omega⟩
    simp only [List.length_cons] at hk hb
    have ih' := ih (pre ++ [r]) k (by omega) (by simp; omega)
    rw [show (pre ++ [r]) ++ suf = pre ++ r :: suf by simp, show ((pre ++ [r]).length : Int) = (pre.length : Int) + 1 by simp] at ih'
    simp only [trestlelaw01_RunesLists.l0]
    rw [if_pos (by simp; omega), if_pos (by omega), if_pos (by simp; omega), rd_r, rd_s, RA.w64_id _ (by omega) (by omega), ih']
    rw [if_pos (show (toS r).f0 = (toR r).f0 from rfl), if_pos (show (toS r).f1 = (toR r).f1 from rfl), if_pos (show (toS r).f2 = (toR r).f2 from rfl)]

theorem fixed_ok : trestlelaw01_fixed.f = some true := by decide +kernel

theorem runesLists (s : ByteArray) (hs : s.size ≤ 5864062014804) : ∃ k, trestlelaw01_RunesLists.f k s = some true := by
  refine ⟨s.size + 20, ?_⟩
  have hl := rs_length s
  unfold trestlelaw01_RunesLists.f
  rw [fixed_ok]
  simp only [Option.bind_some]
  rw [if_pos trivial]
  unfold runes_List.f
  rw [if_pos hs, ref_list s hs _ (by omega)]
  simp only [Option.bind_some]
  rw [if_pos (by simp)]
  unfold runes_Count.f
  rw [if_pos (by omega)]
  simp only [Option.bind_some]
  rw [if_pos (by simp)]
  unfold runes_Bad.f
  rw [if_pos (by omega), ref_bad s hs _ (by omega)]
  simp only [Option.bind_some]
  rw [if_pos trivial]
  unfold runes_Turned.f
  rw [if_pos (by omega), ref_turned s hs _ (by omega)]
  simp only [Option.bind_some]
  show trestlelaw01_RunesLists.j0 ((s.size + 19) + 1) _ _ _ = _
  simp only [trestlelaw01_RunesLists.j0]
  rw [if_neg (by simp)]
  have := same_l (rs s) [] (s.size + 19) (by omega) (by simp; omega)
  simpa using this
end Go.Proofs.Ytlmmhlabacghnaa.RX
