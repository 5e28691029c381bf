/- The plain law of the hash: what the printed functions of hash and of its reference come to, in numbers. -/
import Derived.Test.YtlmmhlabacghnaaPHx2
import Derived.Laws.BitsAllLaws
namespace Go.Proofs.Ytlmmhlabacghnaa.HM
open Go.RowKit Go.Proofs.Ytlmmhlabacghnaa.PH Go.Proofs.YtlmmhlabacghnaaW.PrintWords Go.Proofs.YtlmmhlabacghnaaW.PrintLast
set_option linter.unusedVariables false
set_option linter.unusedSimpArgs false

/-! ### bits -/
theorem wraps_i64 (n : Int) (h0 : 0 ≤ n) (h1 : n < 2 ^ 63) : IntKind.i64.wrap n = n := by rw [IntKind.wrap_i64]; omega
theorem w64_id (n : Int) (h0 : -9223372036854775808 ≤ n) (h1 : n ≤ 9223372036854775807) : wrap64 n = n := by unfold wrap64; omega
theorem u64_id (n : Int) (h0 : 0 ≤ n) (h1 : n ≤ 18446744073709551615) : IntKind.u64.wrap n = n := by rw [IntKind.wrap_u64]; omega

theorem xor_nat (k : IntKind) (j : Nat) (hj : j ≤ k.bits) (hk : ∀ n : Int, 0 ≤ n → n < 2 ^ j → k.wrap n = n) (a b : Nat) (ha : a < 2 ^ j) (hb : b < 2 ^ j) :
    Go.bits .xor k a b = ((a ^^^ b : Nat) : Int) := by
  have hp : 2 ^ j ≤ 2 ^ k.bits := Nat.pow_le_pow_right (by decide) hj
  have ha' : a % 2 ^ k.bits = a := Nat.mod_eq_of_lt (Nat.lt_of_lt_of_le ha hp)
  have hb' : b % 2 ^ k.bits = b := Nat.mod_eq_of_lt (Nat.lt_of_lt_of_le hb hp)
  have cast : ∀ n : Nat, n < 2 ^ j → ((n : Nat) : Int) < 2 ^ j := fun n h => by exact_mod_cast h
  simp only [Go.bits, BitVec.ofInt_natCast, BitVec.toNat_xor, BitVec.toNat_ofNat, ha', hb']
  exact hk _ (Int.natCast_nonneg _) (cast _ (Nat.xor_lt_two_pow ha hb))

theorem xor_i64 (a b : Int) (h0 : 0 ≤ a) (h1 : a < 4294967296) (h2 : 0 ≤ b) (h3 : b < 4294967296) : Go.bits .xor .i64 a b = ((a.toNat ^^^ b.toNat : Nat) : Int) := by
  have := xor_nat .i64 63 (by decide) wraps_i64 a.toNat b.toNat (by omega) (by omega)
  rwa [Int.toNat_of_nonneg h0, Int.toNat_of_nonneg h2] at this

theorem xor_lt (a b : Int) (h0 : 0 ≤ a) (h1 : a < 4294967296) (h2 : 0 ≤ b) (h3 : b < 4294967296) : ((a.toNat ^^^ b.toNat : Nat) : Int) < 4294967296 := by
  have := Nat.xor_lt_two_pow (n := 32) (x := a.toNat) (y := b.toNat) (by omega) (by omega)
  omega

theorem and_pow (t : Int) (i : Nat) (hi : i ≤ 62) (h0 : 0 ≤ t) (h1 : t < 2 ^ 63) : Go.bits .and .i64 t (2 ^ i - 1) = t % 2 ^ i :=
  bits_mask .i64 63 (by decide) wraps_i64 i (by omega) t h0 h1

/-! ### hash.Of -/
theorem ofStep_ref (h b : Int) (h0 : 0 ≤ h) (h1 : h ≤ 4294967295) (h2 : 0 ≤ b) (h3 : b ≤ 255) :
    Int.tmod (wrap64 ((Go.bits .xor .i64 h (wrap64 b)) * 16777619)) 4294967296 = ofStep h b := by
  rw [w64_id b (by omega) (by omega), xor_i64 h b h0 (by omega) h2 (by omega)]
  unfold ofStep
  rw [u32_xor h b h0 (by omega) h2 (by omega), IntKind.wrap_u32]
  have hx := xor_lt h b h0 (by omega) h2 (by omega)
  generalize hn : h.toNat ^^^ b.toNat = n at hx ⊢
  rw [w64_id _ (by omega) (by omega), Int.tmod_eq_emod_of_nonneg (by omega)]

theorem refOf_l0 (s : ByteArray) (hs : s.size ≤ 9223372036854775807) (d : Nat) : ∀ (k i : Nat), i ≤ s.size → s.size - i = d → d < k →
    trestleref04_Of.l0 k s (ofTo s i) i = some (ofTo s s.size) := by
  induction d with
  | zero =>
    intro k i hi hd hk
    obtain ⟨k, rfl⟩ : ∃ m, k = m + 1 := ⟨k - 1, by omega⟩
    obtain rfl : i = s.size := by omega
    simp only [trestleref04_Of.l0]
    rw [if_neg (by omega)]
  | succ d ih =>
    intro k i hi hd hk
    obtain ⟨k, rfl⟩ : ∃ m, k = m + 1 := ⟨k - 1, by omega⟩
    simp only [trestleref04_Of.l0]
    rw [if_pos (by omega), if_pos (by omega)]
    have hr := ofTo_range s i
    have hb := bt_range s i
    rw [ofStep_ref _ _ hr.1 hr.2 hb.1 hb.2, w64_id _ (by omega) (by omega)]
    exact ih k (i + 1) (by omega) (by omega) (by omega)

theorem refOf (s : ByteArray) (hs : s.size ≤ 9223372036854775807) (k : Nat) (hk : s.size < k) : trestleref04_Of.f k s = some (ofTo s s.size) :=
  refOf_l0 s hs s.size k 0 (Nat.zero_le _) (by omega) hk

theorem hashOf (s : ByteArray) (hs : s.size ≤ 9223372036854775807) : hash_Of.f s = some (ofTo s s.size) := by
  unfold hash_Of.f
  rw [if_pos hs]

theorem bt_append (s t : ByteArray) (i : Nat) (h : i < s.size) : bt (s ++ t) i = bt s i := by
  unfold bt
  have h2 : ((i : Int)).toNat < s.size := by omega
  rw [dif_pos h2, dif_pos (by rw [ByteArray.size_append]; omega)]
  rw [ByteArray.getElem_append_left (h2)]

theorem bt_last (s : ByteArray) : bt (s ++ (⟨#[97]⟩ : ByteArray)) (s.size : Int) = 97 := by
  unfold bt
  have hz : (s ++ (⟨#[97]⟩ : ByteArray)).size = s.size + 1 := by rw [ByteArray.size_append]; rfl
  rw [dif_pos (by rw [hz]; omega)]
  rw [ByteArray.getElem_append_right (by omega)]
  simp
  rfl

theorem ofTo_append (s t : ByteArray) : ∀ k, k ≤ s.size → ofTo (s ++ t) k = ofTo s k
  | 0, _ => rfl
  | k + 1, h => by
    unfold ofTo
    rw [ofTo_append s t k (by omega), bt_append s t k (by omega)]

/-! ### what is fixed -/
theorem fixed_ok : trestlelaw04_fixed.f = some true := by decide +kernel


theorem hashTexts (s : ByteArray) (hs : s.size ≤ 140737488351232) : ∃ k, trestlelaw04_HashTexts.f k s = some true := by
  refine ⟨s.size + 1, ?_⟩
  have hz : (s ++ (⟨#[97]⟩ : ByteArray)).size = s.size + 1 := by rw [ByteArray.size_append]; rfl
  have hr := ofTo_range s s.size
  unfold trestlelaw04_HashTexts.f
  rw [hashOf s (by omega)]; simp only [Option.bind_some]
  rw [fixed_ok]; simp only [Option.bind_some]
  rw [if_pos trivial, refOf s (by omega) _ (by omega)]; simp only [Option.bind_some]
  rw [if_pos trivial, if_pos (by omega), if_pos (by omega), if_pos (by omega), hashOf _ (by omega)]; simp only [Option.bind_some]
  rw [hz]
  have hb : ofTo (s ++ (⟨#[97]⟩ : ByteArray)) (s.size + 1) = ofStep (ofTo s s.size) 97 := by
    show ofStep (ofTo (s ++ (⟨#[97]⟩ : ByteArray)) s.size) (bt (s ++ (⟨#[97]⟩ : ByteArray)) s.size) = _
    rw [ofTo_append s _ s.size (Nat.le_refl _), bt_last]
  rw [hb]
  have := ofStep_ref (ofTo s s.size) 97 hr.1 hr.2 (by omega) (by omega)
  rw [w64_id 97 (by omega) (by omega)] at this
  rw [this]
  simp
end Go.Proofs.Ytlmmhlabacghnaa.HM
