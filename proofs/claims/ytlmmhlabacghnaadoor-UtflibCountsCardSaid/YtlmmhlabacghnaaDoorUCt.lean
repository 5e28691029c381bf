/- UtflibCounts: the plain law: Len and Codes of any text and numbers are the reference's. -/
import Derived.Test.YtlmmhlabacghnaaDoorUP
import Derived.Test.YtlmmhlabacghnaaDoorPRx25
namespace Go.Proofs.YtlmmhlabacghnaaDoor.UP
open Go.RowKit Go.Proofs.YtlmmhlabacghnaaDoor.PR Go.Proofs.YtlmmhlabacghnaaDoor.RuneMath Go.Proofs.YtlmmhlabacghnaaDoor.RA Go.Proofs.YtlmmhlabacghnaaDoorW.PrintWords Go.Proofs.YtlmmhlabacghnaaDoorW.PrintLast Go.Proofs.YtlmmhlabacghnaaDoorW.PrintMore
set_option linter.unusedVariables false
set_option linter.unusedSimpArgs false

theorem spanL_step (s : ByteArray) (A : Nat) (b : Int) (h : (A : Int) + 1 ≤ b) (hb : b ≤ s.size) : spanL s A b = (A, (Utf8.decode s A).2, (Utf8.decode s A).1) :: spanL s (A + (Utf8.decode s A).2) b := by
  unfold spanL
  rw [from_lt s A (by omega), upto_cons _ _ _ h]
theorem bad_ref (a w r : Nat) (x : Int) : trestleref17_bad.f x w r = some (inv (a, w, r)) := by
  show (if (r : Int) = 65533 then some ((w : Int) == 1) else some false) = some ((r == 65533) && (w == 1))
  by_cases h : r = 65533
  · rw [if_pos (by omega), beq_iff_eq.2 h, Bool.true_and, show ((w : Int) == 1) = (w == 1) by rw [Bool.eq_iff_iff, beq_iff_eq, beq_iff_eq]; omega]
  · rw [if_neg (by omega), beq_eq_false_iff_ne.2 h]
    rfl
def lenC (c : Nat) (l : List R3) : Int × Int × Int := if badAt l = 0 then ((c : Int) + l.length, 0, 0) else (0, badAt l, 0)
theorem len_l0 (s : ByteArray) (hs : s.size ≤ 140737488351232) (b : Int) (hb : b ≤ s.size) : ∀ (f A c k : Nat), s.size - A ≤ f → f + 13 ≤ k → A ≤ s.size → c ≤ A →
    trestleref17_Len.l0 k s ((A : Int) + 1) b c = some (lenC c (spanL s A b))
  | f, A, c, 0, _, hk, _, _ => by omega
  | f, A, c, k + 1, hf, hk, hA, hc => by
    simp only [trestleref17_Len.l0]
    by_cases h : (A : Int) + 1 ≤ b
    · obtain ⟨j, rfl⟩ : ∃ j, k = j + 12 := ⟨k - 12, by omega⟩
      have hw := width_pos s A (by omega)
      have hf2 := width_fits s A (by omega)
      rw [if_pos h, w64_id _ (by omega) (by omega), show (A : Int) + 1 - 1 = A by omega, at_eq j s A (by omega) (by omega), Option.bind_some]
      dsimp only
      rw [bad_ref A, Option.bind_some, spanL_step s A b h hb]
      cases hi : inv (A, (Utf8.decode s A).2, (Utf8.decode s A).1)
      · rw [if_neg (by decide), w64_id _ (by omega) (by omega), w64_id _ (by omega) (by omega)]
        have ih := len_l0 s hs b hb (f - 1) (A + (Utf8.decode s A).2) (c + 1) (j + 12) (by omega) (by omega) (by omega) (by omega)
        rw [show (A : Int) + 1 + ((Utf8.decode s A).2 : Int) = ((A + (Utf8.decode s A).2 : Nat) : Int) + 1 by omega, show (c : Int) + 1 = ((c + 1 : Nat) : Int) by omega, ih]
        have hb1 : badAt ((A, (Utf8.decode s A).2, (Utf8.decode s A).1) :: spanL s (A + (Utf8.decode s A).2) b) = badAt (spanL s (A + (Utf8.decode s A).2) b) := if_neg (by rw [hi]; decide)
        unfold lenC
        rw [hb1]
        by_cases h0 : badAt (spanL s (A + (Utf8.decode s A).2) b) = 0
        · rw [if_pos h0, if_pos h0, List.length_cons]
          congr 2
          omega
        · rw [if_neg h0, if_neg h0]
      · rw [if_pos rfl]
        have hb1 : badAt ((A, (Utf8.decode s A).2, (Utf8.decode s A).1) :: spanL s (A + (Utf8.decode s A).2) b) = (A : Int) + 1 := if_pos hi
        unfold lenC
        rw [hb1, if_neg (by omega)]
    · rw [if_neg h, spanL_late s A b (by omega)]
      simp [lenC, badAt]
theorem len_ref (s : ByteArray) (hs : s.size ≤ 140737488351232) (i j : Int) (hi : -9223372036854775808 ≤ i) (hj : -9223372036854775808 ≤ j) (k : Nat) (hk : s.size + 15 ≤ k) :
    trestleref17_Len.f k s i j = some (lenV s (meansV i s.size) (meansV j s.size)) := by
  unfold trestleref17_Len.f
  rw [means_ref i s.size hi (by omega), Option.bind_some, means_ref j s.size hj (by omega), Option.bind_some, w64_id _ (by omega) (by omega)]
  generalize meansV i s.size = a
  generalize meansV j s.size = b
  obtain ⟨k, rfl⟩ : ∃ k', k = k' + 1 := ⟨k - 1, by omega⟩
  unfold lenV
  simp only [trestleref17_Len.j0]
  by_cases h1 : a < 1
  · rw [if_pos h1, if_pos trivial, if_pos (.inl h1)]
  · rw [if_neg h1]
    by_cases h2 : a > (s.size : Int) + 1
    · rw [if_pos h2, if_pos trivial, if_pos (.inr (.inl h2))]
    · rw [if_neg h2]
      by_cases h3 : b > (s.size : Int)
      · rw [decide_eq_true h3, if_pos rfl, if_pos (.inr (.inr h3))]
      · rw [decide_eq_false h3, if_neg (by decide), if_neg (by omega)]
        obtain ⟨A, rfl⟩ : ∃ A : Nat, a = (A : Int) + 1 := ⟨(a - 1).toNat, by omega⟩
        have := len_l0 s hs b (by omega) s.size A 0 k (by omega) (by omega) (by omega) (by omega)
        rw [show ((A : Int) + 1 - 1).toNat = A by omega]
        refine this.trans ?_
        unfold lenC lenL
        simp

theorem codes_l0 (s : ByteArray) (hs : s.size ≤ 140737488351232) (b : Int) (hb : b ≤ s.size) : ∀ (f A k : Nat) (acc : List Int), s.size - A ≤ f → f + 13 ≤ k → A ≤ s.size → acc.length ≤ 200 →
    trestleref17_Codes.l0 k s ((A : Int) + 1) b acc = some (codesL acc (spanL s A b))
  | f, A, 0, acc, _, hk, _, _ => by omega
  | f, A, k + 1, acc, hf, hk, hA, hc => by
    simp only [trestleref17_Codes.l0]
    by_cases h : (A : Int) + 1 ≤ b
    · obtain ⟨j, rfl⟩ : ∃ j, k = j + 12 := ⟨k - 12, by omega⟩
      have hw := width_pos s A (by omega)
      have hf2 := width_fits s A (by omega)
      rw [if_pos h, w64_id _ (by omega) (by omega), show (A : Int) + 1 - 1 = A by omega, at_eq j s A (by omega) (by omega), Option.bind_some]
      dsimp only
      rw [bad_ref A, Option.bind_some, spanL_step s A b h hb]
      simp only [codesL]
      cases hi : inv (A, (Utf8.decode s A).2, (Utf8.decode s A).1)
      · rw [if_neg (show ¬ (false = true) by decide), if_neg (show ¬ (false = true) by decide)]
        by_cases h2 : acc.length = 200
        · rw [if_pos (show (acc.length : Int) = 200 by omega), if_pos h2]
        · rw [if_neg (show ¬ (acc.length : Int) = 200 by omega), if_neg h2, if_pos (by omega), w64_id _ (by omega) (by omega)]
          have ih := codes_l0 s hs b hb (f - 1) (A + (Utf8.decode s A).2) (j + 12) (acc ++ [((Utf8.decode s A).1 : Int)]) (by omega) (by omega) (by omega) (by simp; omega)
          rw [show (A : Int) + 1 + ((Utf8.decode s A).2 : Int) = ((A + (Utf8.decode s A).2 : Nat) : Int) + 1 by omega, ih]
      · rw [if_pos rfl, if_pos rfl]
    · rw [if_neg h, spanL_late s A b (by omega)]
      simp [codesL]
theorem codesL_len : ∀ (l : List R3) (acc : List Int), acc.length ≤ 200 → (codesL acc l).1.length ≤ 200
  | [], acc, h => h
  | r :: l, acc, h => by
    simp only [codesL]
    split
    · exact Nat.zero_le _
    split
    · exact Nat.zero_le _
    · exact codesL_len l _ (by simp; omega)
theorem codes_ref (s : ByteArray) (hs : s.size ≤ 140737488351232) (i j : Int) (hi : -9223372036854775808 ≤ i) (hj : -9223372036854775808 ≤ j) (k : Nat) (hk : s.size + 15 ≤ k) :
    trestleref17_Codes.f k s i j = some (codesV s (meansV i s.size) (meansV j s.size)) := by
  unfold trestleref17_Codes.f
  rw [means_ref i s.size hi (by omega), Option.bind_some, means_ref j s.size hj (by omega), Option.bind_some]
  generalize meansV i s.size = a
  generalize meansV j s.size = b
  obtain ⟨k, rfl⟩ : ∃ k', k = k' + 1 := ⟨k - 1, by omega⟩
  unfold codesV
  simp only [trestleref17_Codes.j0]
  by_cases h1 : a < 1
  · rw [if_pos h1, if_pos trivial, if_pos (.inl h1)]
  · rw [if_neg h1]
    by_cases h3 : b > (s.size : Int)
    · rw [decide_eq_true h3, if_pos rfl, if_pos (.inr h3)]
    · rw [decide_eq_false h3, if_neg (by decide), if_neg (by omega)]
      by_cases hA : a ≤ (s.size : Int) + 1
      · obtain ⟨A, rfl⟩ : ∃ A : Nat, a = (A : Int) + 1 := ⟨(a - 1).toNat, by omega⟩
        have := codes_l0 s hs b (by omega) s.size A k [] (by omega) (by omega) (by omega) (by simp)
        rw [show ((A : Int) + 1 - 1).toNat = A by omega]
        exact this
      · obtain ⟨k, rfl⟩ : ∃ k', k = k' + 1 := ⟨k - 1, by omega⟩
        simp only [trestleref17_Codes.l0]
        rw [if_neg (by omega), spanL_late s _ b (by omega)]
        rfl
theorem utflibCounts : trestlelaw17_UtflibCounts.Pure := by
  intro s i j hs hi hj
  have hi := int_wf hi
  have hj := int_wf hj
  refine ⟨s.size + 201 + 20, ?_⟩
  unfold trestlelaw17_UtflibCounts.f
  rw [fixed_ok]
  have e1 : utflib_Len.f s i j = some (lenV s (meansV i s.size) (meansV j s.size)) := if_pos (by omega)
  have e2 : utflib_Codes.f s i j = some (codesV s (meansV i s.size) (meansV j s.size)) := if_pos (by omega)
  rw [e1, Option.bind_some, len_ref s hs i j hi.1 hj.1 _ (by omega), Option.bind_some, e2, Option.bind_some, codes_ref s hs i j hi.1 hj.1 _ (by omega), Option.bind_some, Option.bind_some, if_pos rfl, if_pos rfl, if_pos rfl, if_pos rfl]
  have hl : (codesV s (meansV i s.size) (meansV j s.size)).1.length ≤ 200 := by
    unfold codesV
    split
    · exact Nat.zero_le _
    · exact codesL_len _ _ (Nat.zero_le _)
  rw [same_ints_f _ (by omega) _ (by omega), Option.bind_some, if_pos rfl]
  simp
end Go.Proofs.YtlmmhlabacghnaaDoor.UP
