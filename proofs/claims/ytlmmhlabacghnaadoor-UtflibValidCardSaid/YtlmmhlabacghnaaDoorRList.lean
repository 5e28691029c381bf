/- The reference's list of runes is the model's (for a seat where the reference's Turned is not reached). -/
import Derived.Test.YtlmmhlabacghnaaDoorRA
import Derived.Test.YtlmmhlabacghnaaDoorPRx7
namespace Go.Proofs.YtlmmhlabacghnaaDoor.RX
open Go.RowKit Go.Proofs.YtlmmhlabacghnaaDoor.PR Go.Proofs.YtlmmhlabacghnaaDoor.RuneMath Go.Proofs.YtlmmhlabacghnaaDoor.RA Go.Proofs.YtlmmhlabacghnaaDoorW.PrintWords Go.Proofs.YtlmmhlabacghnaaDoorW.PrintLast
set_option linter.unusedVariables false
set_option linter.unusedSimpArgs false

def toR (r : R3) : S32 := ⟨r.1, r.2.1, r.2.2⟩
theorem list_eq (s : ByteArray) (hs : s.size ≤ 5864062014804) : ∀ (f : Nat) (p : Nat) (acc : List R3) (k : Nat), s.size - p ≤ f → f + 13 ≤ k → acc.length ≤ p → p ≤ s.size →
    trestleref01_List.l0 k s (acc.map toR) p = some ((acc ++ scan s f p).map toR)
  | f, p, acc, 0, _, hk, _, _ => by omega
  | 0, p, acc, k + 1, hf, hk, ha, hp => by
    simp only [trestleref01_List.l0, scan, List.append_nil]
    rw [if_neg (by omega)]
  | f + 1, p, acc, k + 1, hf, hk, ha, hp => by
    simp only [trestleref01_List.l0, scan]
    by_cases h : p < s.size
    · obtain ⟨j, rfl⟩ : ∃ j, k = j + 12 := ⟨k - 12, by omega⟩
      have hw := width_pos s p h
      have hf2 := width_fits s p h
      rw [if_pos (by omega), if_pos h, at_eq j s p (by omega) h]
      simp only [Option.bind_some]
      rw [if_pos (by simp; omega), RA.w64_id _ (by omega) (by omega)]
      have ih := list_eq s hs f (p + (Utf8.decode s p).2) (acc ++ [(p, (Utf8.decode s p).2, (Utf8.decode s p).1)]) (j + 12) (by omega) (by omega) (by simp; omega) hf2
      rw [show ((p + (Utf8.decode s p).2 : Nat) : Int) = (p : Int) + ((Utf8.decode s p).2 : Int) by omega] at ih
      rw [List.map_append] at ih
      refine (show _ = _ from ih).trans ?_
      simp
    · rw [if_neg (by omega), if_neg h]
      simp
theorem ref_list (s : ByteArray) (hs : s.size ≤ 5864062014804) (k : Nat) (hk : s.size + 13 ≤ k) : trestleref01_List.f k s = some ((rs s).map toR) := by
  unfold trestleref01_List.f
  have := list_eq s hs s.size 0 [] k (by omega) hk (Nat.le_refl _) (Nat.zero_le _)
  simpa [rs, from_] using this
theorem rd_r (pre rest : List R3) (r : R3) : rd_T32 ((pre ++ r :: rest).map toR) (pre.length : Int) = toR r := by
  simp [rd_T32]
end Go.Proofs.YtlmmhlabacghnaaDoor.RX
