/- The plain law of RunesLines: a place goes on rune by rune. -/
import Derived.Test.YtlmmhlabacghnaaPRx3
import Derived.Test.YtlmmhlabacghnaaRO
namespace Go.Proofs.Ytlmmhlabacghnaa.RL
open Go.RowKit Go.Proofs.Ytlmmhlabacghnaa.PR Go.Proofs.Ytlmmhlabacghnaa.RuneMath Go.Proofs.YtlmmhlabacghnaaW.PrintWords Go.Proofs.YtlmmhlabacghnaaW.PrintLast
set_option linter.unusedVariables false
set_option linter.unusedSimpArgs false

def step (p : Int × Int) (r : R3) : Int × Int := if r.2.2 = 10 then (p.1 + 1, 1) else (p.1, p.2 + 1)
def lc (l : List R3) : Int × Int := l.foldl step (1, 1)
theorem lc_snoc (l : List R3) (r : R3) : lc (l ++ [r]) = step (lc l) r := by simp [lc]
theorem placeL_fold (a : Int) (suf : List R3) (hs : ∀ r ∈ suf.head?, a ≤ (r.1 : Int)) : ∀ (pre : List R3) (l c : Int), (∀ r ∈ pre, (r.1 : Int) < a) → placeL a (pre ++ suf) l c = pre.foldl step (l, c)
  | [], l, c, _ => by
    cases suf with
    | nil => rfl
    | cons r suf =>
      simp only [List.nil_append, placeL, List.foldl_nil]
      rw [if_pos (hs r rfl)]
  | r :: pre, l, c, h => by
    have h1 := h r List.mem_cons_self
    have ih := placeL_fold a suf hs pre
    simp only [List.cons_append, placeL, List.foldl_cons]
    rw [if_neg (by omega)]
    unfold step
    split
    · exact ih _ _ (fun x hx => h x (List.mem_cons_of_mem _ hx))
    · exact ih _ _ (fun x hx => h x (List.mem_cons_of_mem _ hx))

theorem scan_bounds (s : ByteArray) : ∀ f p, ∀ r ∈ scan s f p, p ≤ r.1 ∧ r.1 < s.size
  | 0, p, r, h => by simp [scan] at h
  | f + 1, p, r, h => by
    simp only [scan] at h
    split at h
    · rename_i hp
      rcases List.mem_cons.1 h with h | h
      · rw [h]
        exact ⟨Nat.le_refl _, hp⟩
      · have := scan_bounds s f _ r h
        have := width_pos s p hp
        omega
    · cases h
theorem scan_sorted (s : ByteArray) : ∀ f p (pre suf : List R3) (r : R3), scan s f p = pre ++ r :: suf → ∀ x ∈ pre, x.1 < r.1
  | 0, p, pre, suf, r, h => by
    cases pre with
    | nil => intro x hx; cases hx
    | cons y pre => simp [scan] at h
  | f + 1, p, pre, suf, r, h => by
    simp only [scan] at h
    split at h
    · rename_i hp
      cases pre with
      | nil => intro x hx; cases hx
      | cons y pre =>
        simp only [List.cons_append, List.cons.injEq] at h
        intro x hx
        have hr := scan_bounds s f _ r (by rw [h.2]; simp)
        have hw := width_pos s p hp
        rcases List.mem_cons.1 hx with hx | hx
        · rw [hx, ← h.1]
          simp only
          omega
        · exact scan_sorted s f _ pre suf r h.2 x hx
    · cases pre with
      | nil => simp at h
      | cons y pre => simp at h

theorem place_at (s : ByteArray) (hs : s.size ≤ 4611686018427387904) (pre suf : List R3) (r : R3) (h : rs s = pre ++ r :: suf) : runes_Place.f s (r.1 : Int) = some ((lc pre).1, (lc pre).2, 0) := by
  have hb := scan_bounds s _ _ r (by show r ∈ rs s; rw [h]; simp)
  unfold runes_Place.f
  rw [if_pos hs, if_neg (by omega), h, placeL_fold _ (r :: suf) (by simp) pre 1 1 (fun x hx => by have := scan_sorted s _ _ pre suf r h x hx; omega)]
  rfl
theorem place_end (s : ByteArray) (hs : s.size ≤ 4611686018427387904) : runes_Place.f s (s.size : Int) = some ((lc (rs s)).1, (lc (rs s)).2, 0) := by
  unfold runes_Place.f
  have h := placeL_fold (s.size : Int) [] (by simp) (rs s) 1 1 (fun x hx => by have := scan_bounds s _ _ x hx; omega)
  rw [List.append_nil] at h
  rw [if_pos hs, if_neg (by omega), h]
  rfl
theorem place_out (s : ByteArray) (hs : s.size ≤ 4611686018427387904) : runes_Place.f s ((s.size : Int) + 1) = some (0, 0, 1) := by
  unfold runes_Place.f
  rw [if_pos hs, if_pos (by omega)]

theorem w64_id (n : Int) (h0 : -9223372036854775808 ≤ n) (h1 : n ≤ 9223372036854775807) : wrap64 n = n := by unfold wrap64; omega

theorem lc_bound : ∀ l : List R3, 1 ≤ (lc l).1 ∧ (lc l).1 ≤ l.length + 1 ∧ 1 ≤ (lc l).2 ∧ (lc l).2 ≤ l.length + 1 := by
  intro l
  have key : ∀ (l : List R3) (p : Int × Int) (n : Nat), 1 ≤ p.1 → p.1 ≤ n + 1 → 1 ≤ p.2 → p.2 ≤ n + 1 → 1 ≤ (l.foldl step p).1 ∧ (l.foldl step p).1 ≤ ((n + l.length : Nat) : Int) + 1 ∧ 1 ≤ (l.foldl step p).2 ∧ (l.foldl step p).2 ≤ ((n + l.length : Nat) : Int) + 1 := by
    intro l
    induction l with
    | nil => intro p n a b c d; exact ⟨a, by simpa using b, c, by simpa using d⟩
    | cons r l ih =>
      intro p n a b c d
      have e : ((n + (r :: l).length : Nat) : Int) = ((n + 1 + l.length : Nat) : Int) := by simp; omega
      rw [e]
      simp only [List.foldl_cons]
      unfold step
      split
      · exact ih _ (n + 1) (by simp; omega) (by simp; omega) (by simp) (by simp; omega)
      · exact ih _ (n + 1) (by simp; omega) (by simp; omega) (by simp; omega) (by simp; omega)
  have := key l (1, 1) 0 (by simp) (by simp) (by simp) (by simp)
  simpa [lc] using this

theorem rd_at (l : List R3) (i : Nat) (r : R3) (rest : List R3) (pre : List R3) (h : l = pre ++ r :: rest) (hi : pre.length = i) : rd_T44 (l.map toS) i = toS r := by
  subst h
  subst hi
  simp [rd_T44]

theorem lines_l0 (s : ByteArray) (hs : s.size ≤ 300) (d : Nat) : ∀ (k : Nat) (pre suf : List R3), rs s = pre ++ suf → suf.length = d → 2 * d < k →
    trestlelaw01_RunesLines.l0 k s ((rs s).map toS) (lc pre).1 (lc pre).2 pre.length = some true := by
  induction d with
  | zero =>
    intro k pre suf h hd hk
    obtain ⟨k, rfl⟩ : ∃ m, k = m + 1 := ⟨k - 1, by omega⟩
    obtain rfl : suf = [] := List.length_eq_zero_iff.1 hd
    have hp : pre = rs s := by simpa using h.symm
    subst hp
    simp only [trestlelaw01_RunesLines.l0]
    rw [List.length_map, if_neg (by omega), place_end s (by omega), w64_id _ (by omega) (by omega), place_out s (by omega)]
    simp
  | succ d ih =>
    intro k pre suf h hd hk
    obtain ⟨k, rfl⟩ : ∃ m, k = m + 1 := ⟨k - 1, by omega⟩
    obtain ⟨r, rest, rfl⟩ : ∃ r rest, suf = r :: rest := by
      cases suf with
      | nil => simp at hd
      | cons r rest => exact ⟨r, rest, rfl⟩
    have hrd := rd_at (rs s) pre.length r rest pre h rfl
    have hlen : (rs s).length = pre.length + (rest.length + 1) := by rw [h]; simp
    have hlt := rs_length s
    have hb := lc_bound pre
    simp only [trestlelaw01_RunesLines.l0]
    rw [hrd, List.length_map, if_pos (by omega), if_pos (by omega)]
    show (runes_Place.f s (r.1 : Int)).bind _ = _
    rw [place_at s (by omega) pre rest r h]
    simp only [Option.bind_some]
    rw [if_pos trivial, if_pos trivial, bne_self_eq_false]
    obtain ⟨k, rfl⟩ : ∃ m, k = m + 1 := ⟨k - 1, by omega⟩
    simp only [trestlelaw01_RunesLines.j2]
    rw [hrd, List.length_map, if_neg (by decide), if_pos (by omega), if_pos (by omega), w64_id _ (by omega) (by omega), w64_id _ (by omega) (by omega), w64_id _ (by omega) (by omega)]
    have hn := ih k (pre ++ [r]) rest (by rw [h]; simp) (by simpa using hd) (by omega)
    rw [lc_snoc, List.length_append] at hn
    show (if (r.2.2 : Int) = 10 then _ else _) = _
    unfold step at hn
    by_cases h10 : r.2.2 = 10
    · rw [if_pos h10] at hn
      rw [if_pos (by omega)]
      exact hn
    · rw [if_neg h10] at hn
      rw [if_neg (by omega)]
      exact hn

theorem lines_j0 (s : ByteArray) (hs : s.size ≤ 300) (k : Nat) (hk : 700 ≤ k) : trestlelaw01_RunesLines.j0 k s = some true := by
  obtain ⟨k, rfl⟩ : ∃ m, k = m + 1 := ⟨k - 1, by omega⟩
  have hl := rs_length s
  simp only [trestlelaw01_RunesLines.j0, runes_List.f]
  rw [if_pos (by omega)]
  simp only [Option.bind_some]
  exact lines_l0 s hs (rs s).length k [] (rs s) rfl rfl (by omega)

theorem runesLines (s : ByteArray) : ∃ k, trestlelaw01_RunesLines.f k s = some true := by
  refine ⟨700, ?_⟩
  unfold trestlelaw01_RunesLines.f
  rw [RO.fixed_ok]
  simp only [Option.bind_some]
  rw [if_pos trivial]
  by_cases h : (s.size : Int) > 300
  · rw [if_pos h, if_pos (by decide), if_pos (by omega)]
    exact lines_j0 _ (by simp; omega) 700 (by omega)
  · rw [if_neg h]
    exact lines_j0 s (by omega) 700 (by omega)

end Go.Proofs.Ytlmmhlabacghnaa.RL
