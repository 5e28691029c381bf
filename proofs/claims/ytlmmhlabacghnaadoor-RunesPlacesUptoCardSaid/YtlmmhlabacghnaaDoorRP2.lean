/- RunesPlaces: line and column are the reference's; the law. -/
import Derived.Test.YtlmmhlabacghnaaDoorRP
namespace Go.Proofs.YtlmmhlabacghnaaDoor.RP
open Go.RowKit Go.Proofs.YtlmmhlabacghnaaDoor.PR Go.Proofs.YtlmmhlabacghnaaDoor.RuneMath Go.Proofs.YtlmmhlabacghnaaDoor.RA Go.Proofs.YtlmmhlabacghnaaDoor.RX Go.Proofs.YtlmmhlabacghnaaDoorW.PrintWords Go.Proofs.YtlmmhlabacghnaaDoorW.PrintLast
set_option linter.unusedVariables false
set_option linter.unusedSimpArgs false

theorem decodeN_nl (n b0 b1 b2 b3 : Nat) : ((Lib.decodeN n b0 b1 b2 b3).1 = 10 → (Lib.decodeN n b0 b1 b2 b3).2 = 1 ∧ b0 = 10) ∧ ((Lib.decodeN n b0 b1 b2 b3).1 ≠ 10 → b0 ≠ 10) ∧ (1 < (Lib.decodeN n b0 b1 b2 b3).2 → b1 ≠ 10) ∧ (2 < (Lib.decodeN n b0 b1 b2 b3).2 → b2 ≠ 10) ∧ (3 < (Lib.decodeN n b0 b1 b2 b3).2 → b3 ≠ 10) ∧ (Lib.decodeN n b0 b1 b2 b3).2 ≤ 4 := by
  unfold Lib.decodeN
  repeat' split
  all_goals (dsimp only; omega)
theorem nl_rune (s : ByteArray) (p : Nat) : ((Utf8.decode s p).1 = 10 → (Utf8.decode s p).2 = 1 ∧ (s.get! p).toNat = 10) ∧ ((Utf8.decode s p).1 ≠ 10 → ∀ q, q < (Utf8.decode s p).2 → (s.get! (p + q)).toNat ≠ 10) := by
  have h := decodeN_nl (s.size - p) (s.get! p).toNat (s.get! (p + 1)).toNat (s.get! (p + 2)).toNat (s.get! (p + 3)).toNat
  rw [← Lib.decode_at] at h
  refine ⟨h.1, fun hc q hq => ?_⟩
  obtain ⟨_, h2, h3, h4, h5, h6⟩ := h
  match q, hq with
  | 0, _ => exact h2 hc
  | 1, hq => exact h3 hq
  | 2, hq => exact h4 hq
  | 3, hq => exact h5 hq
  | q + 4, hq => omega

theorem l0_one (k : Nat) (s : ByteArray) (j p : Nat) (line beg : Int) (hs : s.size ≤ 1048576) (hj : j ≤ s.size) (hp : p < j) (hl : 0 ≤ line ∧ line ≤ 10000000) :
    trestleref01_Place.l0 (k + 1) s j line beg p = if (s.get! p).toNat = 10 then trestleref01_Place.l0 k s j (line + 1) ((p : Int) + 1) ((p : Int) + 1) else trestleref01_Place.l0 k s j line beg ((p : Int) + 1) := by
  simp only [trestleref01_Place.l0]
  have hb := bt_get s p 0 (by omega)
  rw [show ((p : Int) + ((0 : Nat) : Int)) = (p : Int) by omega, Nat.add_zero] at hb
  rw [if_pos (by omega), if_pos (by omega), if_pos (by omega), hb, RA.w64_id _ (by omega) (by omega), RA.w64_id _ (by omega) (by omega)]
  by_cases h : (s.get! p).toNat = 10
  · rw [if_pos (by omega), if_pos h]
  · rw [if_neg (by omega), if_neg h]
theorem l0_skip (s : ByteArray) (j : Nat) (line beg : Int) (hs : s.size ≤ 1048576) (hj : j ≤ s.size) (hl : 0 ≤ line ∧ line ≤ 10000000) : ∀ (m p k : Nat), p + m ≤ j → (∀ q, q < m → (s.get! (p + q)).toNat ≠ 10) →
    trestleref01_Place.l0 (k + m) s j line beg p = trestleref01_Place.l0 k s j line beg ((p + m : Nat) : Int)
  | 0, p, k, _, _ => rfl
  | m + 1, p, k, h, hq => by
    have h0 := hq 0 (by omega)
    rw [Nat.add_zero] at h0
    have ih := l0_skip s j line beg hs hj hl m (p + 1) k (by omega) (fun q hq2 => by have := hq (q + 1) (by omega); rw [show p + 1 + q = p + (q + 1) by omega]; exact this)
    rw [show k + (m + 1) = (k + m) + 1 by omega, l0_one (k + m) s j p line beg hs hj (by omega) hl, if_neg h0, show ((p : Int) + 1) = ((p + 1 : Nat) : Int) by omega, ih]
    congr 1
    omega

/-- The line and where it begins, told rune by rune. -/
def toJ (j : Nat) : List R3 → Int → Int → Int × Int
  | [], l, b => (l, b)
  | r :: rest, l, b => if r.1 < j then (if r.2.2 = 10 then toJ j rest (l + 1) ((r.1 : Int) + 1) else toJ j rest l b) else (l, b)
theorem toJ_stop (s : ByteArray) (j : Nat) (l b : Int) : ∀ f p, j ≤ p → toJ j (scan s f p) l b = (l, b)
  | 0, p, _ => rfl
  | f + 1, p, h => by
    simp only [scan]
    split
    · simp only [toJ]
      rw [if_neg (by omega)]
    · rfl
theorem l0_all (s : ByteArray) (j : Nat) (hs : s.size ≤ 1048576) (hj : j ≤ s.size) : ∀ (f p k : Nat) (line beg : Int), s.size - p ≤ f → p ≤ j → 0 ≤ line → line ≤ 1 + p →
    trestleref01_Place.l0 (k + (j - p)) s j line beg p = trestleref01_Place.l0 k s j (toJ j (scan s f p) line beg).1 (toJ j (scan s f p) line beg).2 j
  | 0, p, k, line, beg, hf, hp, _, _ => by
    obtain rfl : p = j := by omega
    rw [Nat.sub_self]
    rfl
  | f + 1, p, k, line, beg, hf, hp, h0, h1 => by
    by_cases hpj : p = j
    · subst hpj
      rw [toJ_stop s p line beg _ _ (Nat.le_refl _), Nat.sub_self]
      rfl
    · have hps : p < s.size := by omega
      have hw := width_pos s p hps
      have hfit := width_fits s p hps
      obtain ⟨hn1, hn2⟩ := nl_rune s p
      simp only [scan]
      rw [if_pos hps]
      simp only [toJ]
      rw [if_pos (by omega)]
      by_cases hc : (Utf8.decode s p).1 = 10
      · obtain ⟨e1, e2⟩ := hn1 hc
        rw [if_pos hc, e1]
        have ih := l0_all s j hs hj f (p + 1) k (line + 1) ((p : Int) + 1) (by omega) (by omega) (by omega) (by omega)
        rw [show k + (j - p) = (k + (j - (p + 1))) + 1 by omega, l0_one _ s j p line beg hs hj (by omega) (by omega), if_pos e2]
        exact ih
      · rw [if_neg hc]
        by_cases hx : p + (Utf8.decode s p).2 ≤ j
        · have ih := l0_all s j hs hj f (p + (Utf8.decode s p).2) k line beg (by omega) hx h0 (by omega)
          rw [show k + (j - p) = (k + (j - (p + (Utf8.decode s p).2))) + (Utf8.decode s p).2 by omega, l0_skip s j line beg hs hj (by omega) _ p _ hx (hn2 hc)]
          exact ih
        · rw [toJ_stop s j line beg f _ (by omega), l0_skip s j line beg hs hj (by omega) (j - p) p k (by omega) (fun q hq => hn2 hc q (by omega)), show p + (j - p) = j by omega]

def cnt (B j : Int) (l : List R3) : Nat := (l.filter fun r => decide (B ≤ (r.1 : Int) ∧ (r.1 : Int) < j)).length
theorem cnt_snoc (B j : Int) (l : List R3) (r : R3) : cnt B j (l ++ [r]) = cnt B j l + if B ≤ (r.1 : Int) ∧ (r.1 : Int) < j then 1 else 0 := by
  unfold cnt
  rw [List.filter_append, List.length_append]
  congr 1
  by_cases h : B ≤ (r.1 : Int) ∧ (r.1 : Int) < j
  · simp [h]
  · rw [if_neg h]
    simp only [List.filter_cons, decide_eq_true_eq, if_neg h]
    rfl
theorem cnt_app (B j : Int) (l m : List R3) : cnt B j (l ++ m) = cnt B j l + cnt B j m := by simp [cnt]
theorem cnt_none (B j : Int) (l : List R3) (h : ∀ r ∈ l, ¬ (B ≤ (r.1 : Int) ∧ (r.1 : Int) < j)) : cnt B j l = 0 := by
  unfold cnt
  rw [List.length_eq_zero_iff, List.filter_eq_nil_iff]
  intro r hr
  simpa using h r hr
theorem cnt_le (B j : Int) (l : List R3) : cnt B j l ≤ l.length := List.length_filter_le _ _

theorem l1_all (j L B : Int) (suf : List R3) : ∀ (pre : List R3) (k : Nat), suf.length + 1 ≤ k → pre.length + suf.length ≤ 1048576 →
    trestleref01_Place.l1 k j L B (1 + (cnt B j pre : Int)) ((pre ++ suf).map toR) (pre.length : Int) = some (L, 1 + (cnt B j (pre ++ suf) : Int), 0) := by
  induction suf with
  | nil =>
    intro pre k hk hb
    obtain ⟨k, rfl⟩ : ∃ m, k = m + 1 := ⟨k - 1, by simp at hk; omega⟩
    simp only [trestleref01_Place.l1]
    rw [if_neg (by simp), List.append_nil]
  | cons r suf ih =>
    intro pre k hk hb
    obtain ⟨k, rfl⟩ : ∃ m, k = m + 1 := ⟨k - 1, by simp at hk; omega⟩
    simp only [List.length_cons] at hk hb
    have ih' := ih (pre ++ [r]) k (by omega) (by simp; omega)
    have hc := cnt_le B j pre
    rw [show (pre ++ [r]) ++ suf = pre ++ r :: suf by simp, show ((pre ++ [r]).length : Int) = (pre.length : Int) + 1 by simp, cnt_snoc] at ih'
    simp only [trestleref01_Place.l1]
    rw [if_pos (by simp; omega), if_pos (by omega), rd_r, RA.w64_id _ (by omega) (by omega), RA.w64_id _ (by omega) (by omega)]
    unfold toR at ih' ⊢
    dsimp only at ih' ⊢
    by_cases h1 : (r.1 : Int) ≥ B
    · by_cases h2 : (r.1 : Int) < j
      · rw [if_pos h1, if_pos h2]
        rw [if_pos ⟨h1, h2⟩] at ih'
        rw [show (1 + (cnt B j pre : Int) + 1) = 1 + ((cnt B j pre + 1 : Nat) : Int) by omega]
        exact ih'
      · rw [if_pos h1, if_neg h2]
        rw [if_neg (fun h => h2 h.2)] at ih'
        exact ih'
    · rw [if_neg h1]
      rw [if_neg (fun h => h1 h.1)] at ih'
      exact ih'

theorem scan_lt (s : ByteArray) : ∀ f p, ∀ r ∈ scan s f p, p ≤ r.1 ∧ r.1 < s.size
  | 0, p, r, h => by simp [scan] at h
  | f + 1, p, r, h => by
    simp only [scan] at h
    split at h
    · rename_i hp
      rcases List.mem_cons.1 h with h | h
      · rw [h]
        exact ⟨Nat.le_refl _, hp⟩
      · have := scan_lt s f _ r h
        have := width_pos s p hp
        omega
    · cases h
/-- What the program's own count and the reference's are to each other. -/
theorem rel (s : ByteArray) (j : Nat) : ∀ (f p : Nat) (pre : List R3) (line beg : Int), (∀ x ∈ pre, x.1 < p) → beg ≤ p → 
    placeL (j : Int) (scan s f p) line (1 + (cnt beg j pre : Int)) = ((toJ j (scan s f p) line beg).1, 1 + (cnt (toJ j (scan s f p) line beg).2 j (pre ++ scan s f p) : Int))
  | 0, p, pre, line, beg, h, hb => by simp [scan, placeL, toJ]
  | f + 1, p, pre, line, beg, h, hb => by
    simp only [scan]
    by_cases hp : p < s.size
    · have hw := width_pos s p hp
      rw [if_pos hp]
      simp only [placeL, toJ]
      by_cases hj : (j : Int) ≤ (p : Int)
      · rw [if_pos hj, if_neg (by omega), cnt_app, cnt_none beg j (_ :: _) (fun r hr => ?_)]
        · rfl
        · rcases List.mem_cons.1 hr with hr | hr
          · rw [hr]
            dsimp only
            omega
          · have := scan_lt s f _ r hr
            omega
      · rw [if_neg hj]
        have hpj : p < j := by omega
        by_cases hc : (Utf8.decode s p).1 = 10
        · rw [if_pos hc, if_pos hpj, if_pos hc]
          have ih := rel s j f (p + (Utf8.decode s p).2) (pre ++ [(p, (Utf8.decode s p).2, (Utf8.decode s p).1)]) (line + 1) ((p : Int) + 1) (fun x hx => by
            rcases List.mem_append.1 hx with hx | hx
            · have := h x hx; omega
            · simp at hx; rw [hx]; show p < _; omega) (by omega)
          rw [cnt_none ((p : Int) + 1) j (pre ++ [_]) (fun x hx => by
            rcases List.mem_append.1 hx with hx | hx
            · have := h x hx; omega
            · simp at hx; rw [hx]; dsimp only; omega)] at ih
          rw [List.append_assoc] at ih
          exact ih
        · rw [if_neg hc, if_pos hpj, if_neg hc]
          have ih := rel s j f (p + (Utf8.decode s p).2) (pre ++ [(p, (Utf8.decode s p).2, (Utf8.decode s p).1)]) line beg (fun x hx => by
            rcases List.mem_append.1 hx with hx | hx
            · have := h x hx; omega
            · simp at hx; rw [hx]; show p < _; omega) (by omega)
          rw [cnt_snoc, if_pos ⟨by dsimp only; omega, by dsimp only; omega⟩, List.append_assoc] at ih
          rw [show (1 + (cnt beg j pre : Int) + 1) = 1 + ((cnt beg j pre + 1 : Nat) : Int) by omega]
          exact ih
    · rw [if_neg hp]
      simp [placeL, toJ]

theorem place_eq (k : Nat) (s : ByteArray) (j : Int) (hs : s.size ≤ 1048576) : trestleref01_Place.f (k + 2 * s.size + 30) s j = runes_Place.f s j := by
  unfold trestleref01_Place.f runes_Place.f
  rw [if_pos (show s.size ≤ 4611686018427387904 by omega)]
  by_cases h1 : j < 0
  · rw [if_pos h1, if_pos (.inl h1)]
    show trestleref01_Place.j0 ((k + 2 * s.size + 29) + 1) s j true = _
    simp only [trestleref01_Place.j0]
    rw [if_pos trivial]
  · rw [if_neg h1]
    show trestleref01_Place.j0 ((k + 2 * s.size + 29) + 1) s j _ = _
    simp only [trestleref01_Place.j0]
    by_cases h2 : j > (s.size : Int)
    · rw [if_pos (decide_eq_true h2), if_pos (.inr h2)]
    · rw [if_neg (by simpa using h2), if_neg (by omega)]
      obtain ⟨i, rfl⟩ : ∃ i : Nat, j = i := ⟨j.toNat, by omega⟩
      have hl := rs_length s
      have ha := l0_all s i hs (by omega) s.size 0 ((k + 2 * s.size + 29 - i)) 1 0 (by omega) (by omega) (by decide) (by omega)
      rw [show k + 2 * s.size + 29 - i + (i - 0) = k + 2 * s.size + 29 by omega] at ha
      refine (show trestleref01_Place.l0 (k + 2 * s.size + 29) s i 1 0 0 = _ from ha).trans ?_
      have hrs : scan s s.size 0 = rs s := rfl
      rw [hrs]
      obtain ⟨m, hm⟩ : ∃ m, k + 2 * s.size + 29 - i = m + 1 := ⟨k + 2 * s.size + 28 - i, by omega⟩
      rw [hm]
      simp only [trestleref01_Place.l0]
      rw [if_neg (by omega), ref_list s (by omega) m (by omega), Option.bind_some]
      have h1 := l1_all (i : Int) (toJ i (rs s) 1 0).1 (toJ i (rs s) 1 0).2 (rs s) [] m (by omega) (by simp; omega)
      have hr := rel s i s.size 0 [] 1 0 (fun x hx => by cases hx) (by omega)
      rw [hrs] at hr
      rw [List.nil_append] at h1 hr
      have c0 : cnt (toJ i (rs s) 1 0).2 (i : Int) [] = 0 := rfl
      have c1 : cnt 0 (i : Int) [] = 0 := rfl
      rw [c0] at h1
      rw [c1] at hr
      rw [show (1 + ((0 : Nat) : Int)) = 1 by omega] at hr h1
      rw [hr]
      exact h1
theorem place_some (s : ByteArray) (j : Int) (hs : s.size ≤ 1048576) : ∃ r, runes_Place.f s j = some r := by
  unfold runes_Place.f
  rw [if_pos (by omega)]
  split
  · exact ⟨_, rfl⟩
  · exact ⟨_, rfl⟩

theorem runesPlaces (s : ByteArray) (i j : Int) (hs : s.size ≤ 1048576) : ∃ k, trestlelaw01_RunesPlaces.f k s i j = some true := by
  suffices h : ∀ k, trestlelaw01_RunesPlaces.f ((k + 2 * s.size + 30) + 1) s i j = some true from ⟨_, h 0⟩
  intro k
  obtain ⟨r, hr⟩ := dec_some s i
  have hd : trestleref01_Decode.f ((k + 2 * s.size + 30) + 1) s i = some r := by
    have := dec_eq (k + 2 * s.size + 19) s i (by omega)
    rw [show k + 2 * s.size + 19 + 12 = (k + 2 * s.size + 30) + 1 by omega] at this
    rw [← this]
    exact hr
  obtain ⟨q, hq⟩ := place_some s j hs
  have hp : trestleref01_Place.f (k + 2 * s.size + 30) s j = some q := (place_eq k s j hs).trans hq
  have hpt : trestleref01_Part.f (k + 2 * s.size + 30) s i j = runes_Part.f s i j := part_eq _ s i j hs (by omega)
  obtain ⟨t, ht⟩ : ∃ t, runes_Part.f s i j = some t := by
    unfold runes_Part.f
    rw [if_pos (by omega)]
    exact ⟨_, rfl⟩
  rw [ht] at hpt
  unfold trestlelaw01_RunesPlaces.f
  rw [fixed_ok, Option.bind_some, if_pos rfl, hr, hd, Option.bind_some, Option.bind_some, if_pos rfl, if_pos rfl, if_pos rfl, bne_self_eq_false]
  simp only [trestlelaw01_RunesPlaces.j0]
  rw [if_neg (by decide), hq, hp, Option.bind_some, Option.bind_some, if_pos rfl, if_pos rfl, if_pos rfl, ht, hpt, Option.bind_some, Option.bind_some, beq_self_eq_true]
end Go.Proofs.YtlmmhlabacghnaaDoor.RP
