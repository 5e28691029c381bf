/- Offset and Step of any text and numbers, in plain numbers. -/
import Derived.Test.YtlmmhlabacghnaaDoorUP
import Derived.Lib.RuneCountTail
namespace Go.Proofs.YtlmmhlabacghnaaDoor.UP
open Go.RowKit Go.Proofs.YtlmmhlabacghnaaDoor.PR Go.Proofs.YtlmmhlabacghnaaDoor.RuneMath Go.Proofs.YtlmmhlabacghnaaDoor.RA Go.Proofs.YtlmmhlabacghnaaDoorW.PrintWords Go.Proofs.YtlmmhlabacghnaaDoorW.PrintLast Go.Proofs.YtlmmhlabacghnaaDoorW.PrintMore
set_option linter.unusedVariables false
set_option linter.unusedSimpArgs false

/-! ### The byte at a place within a rune -/
def inB (s : ByteArray) (a : Nat) : Bool := decide (1 ≤ a ∧ a ≤ s.size ∧ 128 ≤ bt s ((a : Int) - 1) ∧ bt s ((a : Int) - 1) ≤ 191)
theorem start_all : ∀ n : Nat, n < 256 → (!((Go.bits .and .u8 (n : Int) 192) != 128)) = decide (128 ≤ (n : Int) ∧ (n : Int) ≤ 191) := by decide +kernel
theorem inner_prog (s : ByteArray) (hs : s.size ≤ 140737488351232) (a : Nat) (ha : a ≤ s.size + 1) : utflib_inner.f s a = some (inB s a) := by
  unfold utflib_inner.f inB
  have hb := bt_range s ((a : Int) - 1)
  by_cases h1 : (a : Int) ≥ 1
  · rw [if_pos h1]
    by_cases h2 : (a : Int) ≤ (s.size : Int)
    · rw [if_pos h2, w64_id _ (by omega) (by omega), if_pos (by omega), if_pos (by omega)]
      unfold utf8_RuneStart.f
      rw [Option.bind_some]
      obtain ⟨n, hn⟩ : ∃ n : Nat, bt s ((a : Int) - 1) = n := ⟨(bt s ((a : Int) - 1)).toNat, by omega⟩
      rw [hn] at hb ⊢
      rw [start_all n (by omega)]
      congr 1
      rw [decide_eq_decide]
      omega
    · rw [if_neg h2, decide_eq_false (by omega)]
  · rw [if_neg h1, decide_eq_false (by omega)]
/-! ### Downwards and upwards to where a rune begins -/
def backN (s : ByteArray) : Nat → Nat
  | 0 => 0
  | a + 1 => if a + 1 > 1 ∧ inB s (a + 1) = true then backN s a else a + 1
theorem backN_le (s : ByteArray) : ∀ a, backN s a ≤ a
  | 0 => Nat.le_refl _
  | a + 1 => by
    simp only [backN]
    split
    · have := backN_le s a; omega
    · omega
theorem backN_pos (s : ByteArray) : ∀ a, 1 ≤ a → 1 ≤ backN s a
  | 0, h => h
  | a + 1, h => by
    simp only [backN]
    split
    · exact backN_pos s a (by omega)
    · omega
def skipF (s : ByteArray) : Nat → Nat → Nat
  | 0, a => a
  | f + 1, a => if inB s a = true then skipF s f (a + 1) else a
theorem skipF_ge (s : ByteArray) : ∀ f a, a ≤ skipF s f a
  | 0, a => Nat.le_refl _
  | f + 1, a => by
    simp only [skipF]
    split
    · have := skipF_ge s f (a + 1); omega
    · omega
theorem skipF_le (s : ByteArray) : ∀ f a, a + f ≤ s.size + 1 → skipF s f a ≤ s.size + 1
  | 0, a, h => by simp only [skipF]; omega
  | f + 1, a, h => by
    simp only [skipF]
    split
    · exact skipF_le s f (a + 1) (by omega)
    · omega
def skipN (s : ByteArray) (a : Nat) : Nat := skipF s (s.size + 1 - a) a
theorem inB_le (s : ByteArray) (a : Nat) (h : inB s a = true) : 1 ≤ a ∧ a ≤ s.size := by
  have := of_decide_eq_true h
  exact ⟨this.1, this.2.1⟩

theorem back_l0 (s : ByteArray) (hs : s.size ≤ 140737488351232) : ∀ (a k : Nat), a ≤ s.size + 1 → a + 1 ≤ k → utflib_back.l0 k s a = some (backN s a : Int)
  | 0, k + 1, _, _ => by
    simp only [utflib_back.l0]
    rw [if_neg (by omega)]
    rfl
  | a + 1, k + 1, ha, hk => by
    simp only [utflib_back.l0, backN]
    by_cases h1 : ((a + 1 : Nat) : Int) > 1
    · rw [if_pos h1, inner_prog s hs _ ha, Option.bind_some]
      cases hi : inB s (a + 1)
      · rw [if_neg (by decide), if_neg (by rintro ⟨_, h⟩; cases h)]
      · rw [if_pos rfl, if_pos ⟨by omega, rfl⟩, w64_id _ (by omega) (by omega), show ((a + 1 : Nat) : Int) - 1 = (a : Int) by omega]
        exact back_l0 s hs a k (by omega) (by omega)
    · rw [if_neg h1, if_neg (by rintro ⟨h, _⟩; omega)]
  | _, 0, _, hk => by omega
/-! ### The loops -/
def fin (n : Int) (a : Nat) : Int × Bool × Int := if n = 0 then ((a : Int), true, 0) else (0, false, 0)
def negF (s : ByteArray) : Nat → Int → Nat → Int × Bool × Int
  | 0, n, a => fin n a
  | f + 1, n, a => if n < 0 ∧ a > 1 then negF s f (n + 1) (backN s (a - 1)) else fin n a
def posF (s : ByteArray) : Nat → Int → Nat → Int × Bool × Int
  | 0, n, a => fin n a
  | f + 1, n, a => if n > 0 ∧ a ≤ s.size then posF s f (n - 1) (skipN s (a + 1)) else fin n a

theorem fin_eq (n : Int) (a : Nat) : (if n = 0 then some ((a : Int), true, (0 : Int)) else some (0, false, 0)) = some (fin n a) := by
  unfold fin
  split <;> rfl
theorem neg_prog (s : ByteArray) (hs : s.size ≤ 140737488351232) : ∀ (f : Nat) (n : Int) (a k : Nat), a ≤ f → a ≤ s.size + 1 → 1 ≤ a → n ≤ 0 → -9223372036854775808 ≤ n → 2 * f + 5 ≤ k → utflib_Offset.l0 k s n a = some (negF s f n a)
  | 0, n, a, k, h0, _, h1, _, _, _ => by omega
  | f + 1, n, a, 0, _, _, _, _, _, hk => by omega
  | f + 1, n, a, k + 1, hf, ha, h1, hn, hn2, hk => by
    simp only [utflib_Offset.l0, negF]
    have hfin : utflib_Offset.j2 k s n a = some (fin n a) := by
      obtain ⟨k, rfl⟩ : ∃ k', k = k' + 1 := ⟨k - 1, by omega⟩
      simp only [utflib_Offset.j2]
      rw [if_neg (by omega), fin_eq]
    by_cases h2 : n < 0
    · rw [if_pos h2]
      by_cases h3 : (a : Int) > 1
      · rw [if_pos h3, if_pos ⟨h2, by omega⟩, w64_id _ (by omega) (by omega), w64_id _ (by omega) (by omega), show (a : Int) - 1 = ((a - 1 : Nat) : Int) by omega]
        unfold utflib_back.f
        rw [back_l0 s hs (a - 1) k (by omega) (by omega), Option.bind_some]
        have := backN_le s (a - 1)
        have := backN_pos s (a - 1) (by omega)
        exact neg_prog s hs f (n + 1) _ k (by omega) (by omega) (by omega) (by omega) (by omega) (by omega)
      · rw [if_neg h3, if_neg (by rintro ⟨_, h⟩; omega), hfin]
    · rw [if_neg h2, if_neg (by rintro ⟨h, _⟩; omega), hfin]
theorem pl2 (s : ByteArray) (hs : s.size ≤ 140737488351232) (n : Int) (hn : 0 < n) (hn2 : n ≤ 9223372036854775807) (k : Nat) : ∀ (f a : Nat), 1 ≤ a → a + f = s.size + 1 → utflib_Offset.l2 (k + (skipF s f a - a) + 1) s n a = utflib_Offset.l1 k s (n - 1) (skipF s f a : Int)
  | 0, a, h, ha => by
    simp only [utflib_Offset.l2, skipF]
    have hi : inB s a = false := by
      cases h : inB s a
      · rfl
      · have := inB_le s a h; omega
    rw [inner_prog s hs _ (by omega), Option.bind_some, hi, if_neg (by decide), Nat.sub_self, w64_id _ (by omega) (by omega)]
    rfl
  | f + 1, a, h, ha => by
    simp only [utflib_Offset.l2, skipF]
    rw [inner_prog s hs _ (by omega), Option.bind_some]
    cases hi : inB s a
    · rw [if_neg (show ¬ false = true by decide), if_neg (show ¬ false = true by decide), Nat.sub_self, w64_id _ (by omega) (by omega)]
      rfl
    · have hge := skipF_ge s f (a + 1)
      rw [if_pos rfl, if_pos rfl, w64_id _ (by omega) (by omega), show (a : Int) + 1 = ((a + 1 : Nat) : Int) by omega, show k + (skipF s f (a + 1) - a) = k + (skipF s f (a + 1) - (a + 1)) + 1 by omega]
      exact pl2 s hs n hn hn2 k f (a + 1) (by omega) (by omega)
theorem pos_prog (s : ByteArray) (hs : s.size ≤ 140737488351232) : ∀ (f : Nat) (n : Int) (a k : Nat), s.size + 1 - a ≤ f → a ≤ s.size + 1 → 1 ≤ a → 0 ≤ n → n ≤ 9223372036854775807 → 4 * (s.size + 1 - a) + 5 ≤ k → utflib_Offset.l1 k s n a = some (posF s f n a)
  | f, n, a, 0, _, _, _, _, _, hk => by omega
  | f, n, a, k + 1, hf, ha, h1, hn, hn2, hk => by
    obtain ⟨k, rfl⟩ : ∃ k', k = k' + 1 := ⟨k - 1, by omega⟩
    simp only [utflib_Offset.l1]
    by_cases h2 : n > 0
    · rw [if_pos h2]
      simp only [utflib_Offset.j4]
      by_cases h3 : (a : Int) ≤ (s.size : Int)
      · obtain ⟨f, rfl⟩ : ∃ f', f = f' + 1 := ⟨f - 1, by omega⟩
        simp only [posF]
        rw [decide_eq_true h3, if_pos rfl, if_pos ⟨h2, by omega⟩, w64_id _ (by omega) (by omega), show (a : Int) + 1 = ((a + 1 : Nat) : Int) by omega]
        have hge := skipF_ge s (s.size + 1 - (a + 1)) (a + 1)
        have hle := skipF_le s (s.size + 1 - (a + 1)) (a + 1) (by omega)
        obtain ⟨j, rfl⟩ : ∃ j, k = j + (skipF s (s.size + 1 - (a + 1)) (a + 1) - (a + 1)) + 1 := ⟨k - (skipF s (s.size + 1 - (a + 1)) (a + 1) - (a + 1)) - 1, by omega⟩
        rw [pl2 s hs n h2 hn2 j (s.size + 1 - (a + 1)) (a + 1) (by omega) (by omega)]
        exact pos_prog s hs f (n - 1) _ j (by omega) (by omega) (by omega) (by omega) (by omega) (by omega)
      · rw [decide_eq_false h3, if_neg (by decide), fin_eq]
        cases f with
        | zero => rfl
        | succ f =>
          simp only [posF]
          rw [if_neg (by rintro ⟨_, h⟩; omega)]
    · rw [if_neg h2]
      simp only [utflib_Offset.j4]
      rw [if_neg (by decide), fin_eq]
      cases f with
      | zero => rfl
      | succ f =>
        simp only [posF]
        rw [if_neg (by rintro ⟨h, _⟩; omega)]
/-! ### Offset -/
def offA (s : ByteArray) (n a : Int) : Int × Bool × Int :=
  if a < 1 ∨ (s.size : Int) + 1 < a then (0, false, 1)
  else if n = 0 then ((backN s a.toNat : Int), true, 0)
  else if inB s a.toNat = true then (0, false, 1)
  else if n < 0 then negF s a.toNat n a.toNat
  else posF s (s.size + 1) (n - 1) a.toNat
theorem offset_prog (s : ByteArray) (hs : s.size ≤ 140737488351232) (n i : Int) (hi : -9223372036854775808 ≤ i) (hn : -9223372036854775808 ≤ n ∧ n ≤ 9223372036854775807) (k : Nat) (hk : 4 * s.size + 20 ≤ k) :
    utflib_Offset.f k s n i = some (offA s n (meansV i s.size)) := by
  unfold utflib_Offset.f
  rw [means_prog i s.size hi (by omega), Option.bind_some, w64_id ((s.size : Int) + 1) (by omega) (by omega)]
  generalize meansV i s.size = a
  obtain ⟨k, rfl⟩ : ∃ k', k = k' + 1 := ⟨k - 1, by omega⟩
  unfold offA
  simp only [utflib_Offset.j0]
  by_cases h1 : a < 1
  · rw [if_pos h1, if_pos trivial, if_pos (.inl h1)]
  · rw [if_neg h1]
    by_cases h2 : a > (s.size : Int) + 1
    · rw [decide_eq_true h2, if_pos rfl, if_pos (.inr h2)]
    · rw [decide_eq_false h2, if_neg (by decide), if_neg (show ¬ (a < 1 ∨ (s.size : Int) + 1 < a) by omega)]
      obtain ⟨p, rfl⟩ : ∃ p : Nat, a = (p : Int) := ⟨a.toNat, by omega⟩
      rw [Int.toNat_natCast]
      by_cases h3 : n = 0
      · rw [if_pos h3, if_pos h3]
        unfold utflib_back.f
        rw [back_l0 s hs p k (by omega) (by omega), Option.bind_some]
      · rw [if_neg h3, if_neg h3, inner_prog s hs p (by omega), Option.bind_some]
        cases hin : inB s p
        · rw [if_neg (show ¬ false = true by decide), if_neg (show ¬ false = true by decide)]
          by_cases h4 : n < 0
          · rw [if_pos h4]
            exact neg_prog s hs p n p k (Nat.le_refl _) (by omega) (by omega) (by omega) (by omega) (by omega)
          · rw [if_neg h4]
            obtain ⟨k, rfl⟩ : ∃ k', k = k' + 1 + 1 := ⟨k - 2, by omega⟩
            simp only [utflib_Offset.l0, utflib_Offset.j2]
            rw [if_neg h4, if_pos (show n > 0 by omega), w64_id _ (by omega) (by omega)]
            exact pos_prog s hs (s.size + 1) (n - 1) p k (by omega) (by omega) (by omega) (by omega) (by omega) (by omega)
        · rw [if_pos rfl, if_pos rfl]
/-! ### Step -/
theorem dec_at (s : ByteArray) (hs : s.size ≤ 140737488351232) (p : Nat) (hp : p < s.size) : runes_Decode.f s p = some ((p : Int), ((Utf8.decode s p).2 : Int), ((Utf8.decode s p).1 : Int), 0) := by
  unfold runes_Decode.f
  rw [if_neg (by omega), if_neg (by omega), if_pos (by omega), if_pos (by omega)]
  unfold utf8_DecodeRuneInString.f Lib.decodeGo
  have hsz : (s.extract ((p : Int)).toNat s.size).size = s.size - p := by simp
  have ht := Lib.tail_decode s p 0
  rw [Nat.add_zero] at ht
  have hd := decode_top s p
  rw [if_neg (by omega), Option.bind_some, Int.toNat_natCast, ht, RA.w64_id _ (by omega) (by omega)]
theorem inval_prog (a w r : Nat) (x : Int) : utflib_invalid.f x w r = some (inv (a, w, r)) := by
  show (if (r : Int) = 65533 then some ((w : Int) == 1) else some false) = some ((r == 65533) && (w == 1))
  by_cases h : r = 65533
  · rw [if_pos (by omega), beq_iff_eq.2 h, Bool.true_and, show ((w : Int) == 1) = (w == 1) by rw [Bool.eq_iff_iff, beq_iff_eq, beq_iff_eq]; omega]
  · rw [if_neg (by omega), beq_eq_false_iff_ne.2 h]
    rfl
def stepA (s : ByteArray) (k : Nat) : Int × Int × Bool × Int := if s.size ≤ k then (0, 0, false, 0) else if inv (k, (Utf8.decode s k).2, (Utf8.decode s k).1) = true then (0, 0, false, 3) else ((k : Int) + 1, ((Utf8.decode s k).1 : Int), true, 0)
def stepV (s : ByteArray) (i : Int) : Int × Int × Bool × Int := if i < 0 ∨ (s.size : Int) < i then (0, 0, false, 1) else if i > 0 then stepA s (i.toNat - 1 + (Utf8.decode s (i.toNat - 1)).2) else stepA s 0
theorem step_j1 (s : ByteArray) (hs : s.size ≤ 140737488351232) (p k : Nat) : utflib_Step.j1 (k + 1) s p = some (stepA s p) := by
  simp only [utflib_Step.j1, stepA]
  by_cases h : s.size ≤ p
  · rw [if_pos (by omega), if_pos h]
  · rw [if_neg (by omega), if_neg h, dec_at s hs p (by omega), Option.bind_some]
    dsimp only
    rw [if_pos rfl, inval_prog p, Option.bind_some]
    cases inv (p, (Utf8.decode s p).2, (Utf8.decode s p).1)
    · rw [if_neg (by decide), if_neg (by decide), w64_id _ (by omega) (by omega)]
    · rw [if_pos rfl, if_pos rfl]
theorem step_prog (s : ByteArray) (hs : s.size ≤ 140737488351232) (i : Int) (k : Nat) : utflib_Step.f (k + 2) s i = some (stepV s i) := by
  unfold utflib_Step.f stepV
  simp only [utflib_Step.j0]
  by_cases h1 : i < 0
  · rw [if_pos h1, if_pos trivial, if_pos (.inl h1)]
  · rw [if_neg h1]
    by_cases h2 : i > (s.size : Int)
    · rw [decide_eq_true h2, if_pos rfl, if_pos (.inr h2)]
    · rw [decide_eq_false h2, if_neg (by decide), if_neg (show ¬ (i < 0 ∨ (s.size : Int) < i) by omega)]
      by_cases h3 : i > 0
      · rw [if_pos h3, if_pos h3, w64_id _ (by omega) (by omega), show i - 1 = ((i.toNat - 1 : Nat) : Int) by omega, dec_at s hs _ (by omega), Option.bind_some]
        dsimp only
        have hw := width_fits s (i.toNat - 1) (by omega)
        rw [w64_id _ (by omega) (by omega), show ((i.toNat - 1 : Nat) : Int) + ((Utf8.decode s (i.toNat - 1)).2 : Int) = ((i.toNat - 1 + (Utf8.decode s (i.toNat - 1)).2 : Nat) : Int) by omega]
        exact step_j1 s hs _ k
      · rw [if_neg h3, if_neg h3]
        exact step_j1 s hs 0 k
end Go.Proofs.YtlmmhlabacghnaaDoor.UP
