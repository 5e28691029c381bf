/- Texts rune by rune, in plain numbers: the list of runes of a text by the model's own decoding. -/
import Derived.Laws.RangeAny
namespace Go.Proofs.YtlmmhlabacghnaaDoor.RuneMath
set_option linter.unusedSimpArgs false

/-- A rune: where it begins, how many bytes it has, its code point. -/
abbrev R3 := Nat × Nat × Nat

theorem width_pos (s : ByteArray) (pos : Nat) (h : pos < s.size) : 1 ≤ (Utf8.decode s pos).2 := by
  by_cases ha : (s[pos]'h).toNat < 128
  · rw [decode_ascii s pos h ha]
    exact Nat.le_refl _
  · exact (decode_high s pos h (by omega)).2

theorem width_fits (s : ByteArray) (pos : Nat) (h : pos < s.size) : pos + (Utf8.decode s pos).2 ≤ s.size := by
  simp only [Utf8.decode]
  repeat' split
  all_goals simp_all [Utf8.runeError]
  all_goals omega

def scan (s : ByteArray) : Nat → Nat → List R3
  | 0, _ => []
  | f + 1, p => if p < s.size then (p, (Utf8.decode s p).2, (Utf8.decode s p).1) :: scan s f (p + (Utf8.decode s p).2) else []

theorem scan_more (s : ByteArray) : ∀ f g p, s.size - p ≤ f → s.size - p ≤ g → scan s f p = scan s g p
  | 0, 0, _, _, _ => rfl
  | 0, g + 1, p, h, _ => by
    simp only [scan]
    rw [if_neg (by omega)]
  | f + 1, 0, p, _, h => by
    simp only [scan]
    rw [if_neg (by omega)]
  | f + 1, g + 1, p, h1, h2 => by
    simp only [scan]
    by_cases hp : p < s.size
    · have := width_pos s p hp
      rw [if_pos hp, if_pos hp, scan_more s f g _ (by omega) (by omega)]
    · rw [if_neg hp, if_neg hp]

/-- The runes from a byte on. -/
def from_ (s : ByteArray) (p : Nat) : List R3 := scan s (s.size - p) p
theorem from_lt (s : ByteArray) (p : Nat) (h : p < s.size) : from_ s p = (p, (Utf8.decode s p).2, (Utf8.decode s p).1) :: from_ s (p + (Utf8.decode s p).2) := by
  have hw := width_pos s p h
  unfold from_
  obtain ⟨f, hf⟩ : ∃ f, s.size - p = f + 1 := ⟨s.size - p - 1, by omega⟩
  rw [hf]
  simp only [scan]
  rw [if_pos h, scan_more s f (s.size - (p + (Utf8.decode s p).2)) _ (by omega) (by omega)]
theorem from_ge (s : ByteArray) (p : Nat) (h : ¬ p < s.size) : from_ s p = [] := by
  unfold from_
  rw [show s.size - p = 0 by omega]
  rfl
/-- All runes. -/
def rs (s : ByteArray) : List R3 := from_ s 0

/-- Who is told rune by rune, until he says no. -/
def go (cont : List R3 → R3 → Bool) : List R3 → List R3 → List R3
  | told, [] => told
  | told, r :: rest => if cont told r = true then go cont (told ++ [r]) rest else told ++ [r]
theorem go_all (told l : List R3) : go (fun _ _ => true) told l = told ++ l := by
  induction l generalizing told with
  | nil => simp [go]
  | cons r l ih => simp [go, ih]

end Go.Proofs.YtlmmhlabacghnaaDoor.RuneMath
