/- RunesPlaces: the plain law: a rune at a byte, the line and column of a byte, a part of the runes: the reference's. -/
import Derived.Test.YtlmmhlabacghnaaDoorRList
import Derived.Test.YtlmmhlabacghnaaDoorPRx11
import Derived.Lib.RuneCountTail
namespace Go.Proofs.YtlmmhlabacghnaaDoor.RP
open Go.RowKit Go.Proofs.YtlmmhlabacghnaaDoor.PR Go.Proofs.YtlmmhlabacghnaaDoor.RuneMath Go.Proofs.YtlmmhlabacghnaaDoor.RA Go.Proofs.YtlmmhlabacghnaaDoor.RX Go.Proofs.YtlmmhlabacghnaaDoorW.PrintWords Go.Proofs.YtlmmhlabacghnaaDoorW.PrintLast
set_option linter.unusedVariables false
set_option linter.unusedSimpArgs false

theorem fixed_ok : trestlelaw01_fixed.f = some true := by decide +kernel

/-! ### Decode -/
theorem decode_le (s : ByteArray) (p : Nat) : (Utf8.decode s p).1 ≤ 1114111 := by
  rw [Lib.decode_at]
  have := (s.get! p).toNat_lt
  unfold Lib.decodeN
  repeat' split
  all_goals (dsimp only; omega)
theorem dec_eq (k : Nat) (s : ByteArray) (i : Int) (hs : s.size ≤ 140737488355328) : runes_Decode.f s i = trestleref01_Decode.f (k + 12) s i := by
  unfold runes_Decode.f trestleref01_Decode.f
  by_cases h1 : i < 0
  · rw [if_pos h1, if_pos h1]
  · rw [if_neg h1, if_neg h1]
    by_cases h2 : i ≥ (s.size : Int)
    · rw [if_pos h2, if_pos h2]
    · obtain ⟨p, rfl⟩ : ∃ p : Nat, i = p := ⟨i.toNat, by omega⟩
      rw [if_neg h2, if_neg h2, if_pos (by omega), if_pos (by omega), at_eq k s p hs (by omega), Option.bind_some]
      unfold utf8_DecodeRuneInString.f Lib.decodeGo
      have hsz : (s.extract ((p : Int)).toNat s.size).size = s.size - p := by simp
      have ht := Lib.tail_decode s p 0
      rw [Nat.add_zero] at ht
      have hd := decode_le s p
      rw [if_neg (by omega), Option.bind_some, Int.toNat_natCast, ht, RA.w64_id _ (by omega) (by omega)]
theorem dec_some (s : ByteArray) (i : Int) : ∃ r, runes_Decode.f s i = some r := by
  unfold runes_Decode.f
  split
  · exact ⟨_, rfl⟩
  split
  · exact ⟨_, rfl⟩
  rw [if_pos (by omega), if_pos (by omega)]
  exact ⟨_, rfl⟩

/-! ### Part -/
theorem partN_seg (u : ByteArray) (i j : Int) : ∀ (M C : List R3) (f p n : Nat), scan u f p = M ++ C → i ≤ n → ((n + M.length : Nat) : Int) ≤ j → partN u i j n M = (u.data.toList.drop p).take (bytes3 M)
  | [], C, f, p, n, _, _, _ => by simp [partN, bytes3]
  | r :: M, C, 0, p, n, h, _, _ => by simp [scan] at h
  | r :: M, C, f + 1, p, n, h, hi, hj => by
    simp only [scan] at h
    by_cases hp : p < u.size
    · rw [if_pos hp] at h
      simp only [List.cons_append, List.cons.injEq] at h
      obtain ⟨h0, h1⟩ := h
      simp only [List.length_cons] at hj
      simp only [partN]
      rw [if_pos ⟨hi, by omega⟩, partN_seg u i j M C f (p + (Utf8.decode u p).2) (n + 1) h1 (by omega) (by omega), ← h0]
      have e : (own3 u (p, (Utf8.decode u p).2, (Utf8.decode u p).1)).data.toList = (u.data.toList.drop p).take (Utf8.decode u p).2 := by
        unfold own3
        simp [ByteArray.data_extract, List.extract_eq_take_drop]
      have e2 : bytes3 ((p, (Utf8.decode u p).2, (Utf8.decode u p).1) :: M) = (Utf8.decode u p).2 + bytes3 M := by simp [bytes3]
      rw [e, e2, ← List.drop_drop, List.take_add]
    · rw [if_neg hp] at h
      cases h
theorem partN_early (s : ByteArray) (i j : Int) : ∀ (l : List R3) (n : Nat), ((n + l.length : Nat) : Int) ≤ i → partN s i j n l = []
  | [], _, _ => rfl
  | x :: l, n, h => by
    simp only [List.length_cons] at h
    simp only [partN]
    rw [if_neg (by omega), partN_early s i j l (n + 1) (by omega)]
    rfl
theorem scan_split (s : ByteArray) : ∀ (A B : List R3) (f p : Nat), scan s f p = A ++ B → ∃ g, scan s g (p + bytes3 A) = B
  | [], B, f, p, h => ⟨f, by simpa [bytes3] using h⟩
  | r :: A, B, 0, p, h => by simp [scan] at h
  | r :: A, B, f + 1, p, h => by
    simp only [scan] at h
    by_cases hp : p < s.size
    · rw [if_pos hp] at h
      simp only [List.cons_append, List.cons.injEq] at h
      obtain ⟨g, hg⟩ := scan_split s A B f _ h.2
      refine ⟨g, ?_⟩
      rw [← h.1]
      have e2 : bytes3 ((p, (Utf8.decode s p).2, (Utf8.decode s p).1) :: A) = (Utf8.decode s p).2 + bytes3 A := by simp [bytes3]
      rw [e2, ← Nat.add_assoc]
      exact hg
    · rw [if_neg hp] at h
      cases h
theorem bytes3_app (a b : List R3) : bytes3 (a ++ b) = bytes3 a + bytes3 b := by simp [bytes3]
theorem partN_none (s : ByteArray) (i j : Int) : ∀ (l : List R3) (n : Nat), (∀ m : Nat, n ≤ m → m < n + l.length → ¬ (i ≤ (m : Int) ∧ (m : Int) < j)) → partN s i j n l = []
  | [], _, _ => rfl
  | x :: l, n, h => by
    simp only [List.length_cons] at h
    simp only [partN]
    rw [if_neg (h n (Nat.le_refl _) (by omega)), partN_none s i j l (n + 1) (fun m h1 h2 => h m (by omega) (by omega))]
    rfl
theorem split3 (l : List R3) (a b : Nat) (h : a < b) (hb : b ≤ l.length) : ∃ A x M0 C, l = A ++ ((x :: M0) ++ C) ∧ A.length = a ∧ (x :: M0).length = b - a := by
  have h1 : l = l.take a ++ ((l.drop a).take (b - a) ++ (l.drop a).drop (b - a)) := by rw [List.take_append_drop, List.take_append_drop]
  have h2 : ((l.drop a).take (b - a)).length = b - a := by simp; omega
  cases hm : (l.drop a).take (b - a) with
  | nil => rw [hm] at h2; simp at h2; omega
  | cons x M0 =>
    rw [hm] at h1 h2
    exact ⟨_, x, M0, _, h1, by simp; omega, h2⟩
theorem last_of (x : R3) (M0 : List R3) : ∃ M1 y, x :: M0 = M1 ++ [y] := by
  have h : (x :: M0) ≠ [] := by simp
  exact ⟨(x :: M0).dropLast, (x :: M0).getLast h, (List.dropLast_concat_getLast h).symm⟩

theorem part_eq (k : Nat) (s : ByteArray) (i j : Int) (hs : s.size ≤ 1048576) (hk : s.size + 13 ≤ k) : trestleref01_Part.f k s i j = runes_Part.f s i j := by
  have hl := rs_length s
  unfold trestleref01_Part.f runes_Part.f
  rw [ref_list s (by omega) k hk, Option.bind_some, if_pos (show s.size ≤ 140737488355327 by omega), List.length_map]
  by_cases h : mx i 0 ≥ mn j ((rs s).length : Int)
  · rw [if_pos h, partN_none s i j (rs s) 0 (fun m h1 h2 => by unfold mx mn at h; split at h <;> split at h <;> omega)]
  · rw [if_neg h]
    obtain ⟨lo, hlo⟩ : ∃ a : Nat, mx i 0 = a := ⟨(mx i 0).toNat, by unfold mx; split <;> omega⟩
    obtain ⟨hi, hhi⟩ : ∃ a : Nat, mn j ((rs s).length : Int) = a := ⟨(mn j ((rs s).length : Int)).toNat, by unfold mx mn at h; unfold mn; split at h <;> split at h <;> split <;> omega⟩
    have hhn : hi ≤ (rs s).length := by unfold mn at hhi; split at hhi <;> omega
    rw [hlo, hhi] at h ⊢
    obtain ⟨A, x, M0, C, hsp, hA, hM⟩ := split3 (rs s) lo hi (by omega) hhn
    obtain ⟨M1, y, hy⟩ := last_of x M0
    have hM1 : M1.length + 1 = hi - lo := by rw [hy] at hM; simpa using hM
    have n1 := scan_next s _ _ A (M0 ++ C) x (show rs s = A ++ x :: (M0 ++ C) by rw [hsp]; rfl)
    have n2 := scan_next s _ _ (A ++ M1) C y (show rs s = (A ++ M1) ++ y :: C by rw [hsp, hy]; simp)
    rw [Nat.zero_add] at n1 n2
    have e1 : rd_T32 ((rs s).map toR) (lo : Int) = toR x := by
      rw [← hA, show rs s = A ++ x :: (M0 ++ C) by rw [hsp]; rfl]
      exact rd_r A (M0 ++ C) x
    have e2 : rd_T32 ((rs s).map toR) ((hi : Int) - 1) = toR y := by
      rw [show ((hi : Int) - 1) = ((A ++ M1).length : Int) by simp; omega, show rs s = (A ++ M1) ++ y :: C by rw [hsp, hy]; simp]
      exact rd_r (A ++ M1) C y
    have hbm : bytes3 (x :: M0) = bytes3 M1 + y.2.1 := by rw [hy, bytes3_snoc]
    have hbb := bytes3_app A M1
    rw [if_pos (by omega), if_pos (by omega), RA.w64_id ((hi : Int) - 1) (by omega) (by omega), if_pos (by omega), if_pos (by omega), e1, e2]
    unfold toR
    dsimp only
    rw [RA.w64_id _ (by omega) (by omega), if_pos (by omega), if_pos (by omega), if_pos (by omega)]
    congr 1
    have hp : partN s i j 0 (rs s) = (s.data.toList.drop (bytes3 A)).take (bytes3 (x :: M0)) := by
      obtain ⟨g, hg⟩ := scan_split s A ((x :: M0) ++ C) _ 0 hsp
      rw [Nat.zero_add] at hg
      have hii : i ≤ (lo : Int) := by unfold mx at hlo; split at hlo <;> omega
      have hjj : (hi : Int) ≤ j := by unfold mn at hhi; split at hhi <;> omega
      rw [hsp, partN_append, partN_append, partN_none s i j A 0 (fun m h1 h2 => by unfold mx at hlo; split at hlo <;> omega), List.nil_append, partN_seg s i j (x :: M0) C g (bytes3 A) (0 + A.length) hg (by omega) (by omega)]
      have hc : partN s i j (0 + A.length + (x :: M0).length) C = [] := by
        refine partN_none s i j C _ (fun m h1 h2 => ?_)
        have hlen : (rs s).length = A.length + ((x :: M0).length + C.length) := by rw [hsp]; simp; omega
        unfold mn at hhi
        split at hhi <;> omega
      rw [hc, List.append_nil]
    rw [hp]
    apply ByteArray.ext
    apply Array.ext'
    simp only [ByteArray.data_extract, Array.toList_extract, List.extract_eq_take_drop]
    rw [show ((x.1 : Int)).toNat = bytes3 A by omega, show ((y.1 : Int) + (y.2.1 : Int)).toNat - bytes3 A = bytes3 (x :: M0) by omega]
end Go.Proofs.YtlmmhlabacghnaaDoor.RP
