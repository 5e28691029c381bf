/- UtflibOne: the plain law: the text of one code point has one rune, which is it. -/
import Derived.Test.YtlmmhlabacghnaaDoorUOff
import Derived.Test.YtlmmhlabacghnaaDoorRC0
import Derived.Test.YtlmmhlabacghnaaDoorPRx26
namespace Go.Proofs.YtlmmhlabacghnaaDoor.UP
open Go.RowKit Go.Proofs.YtlmmhlabacghnaaDoor.PR Go.Proofs.YtlmmhlabacghnaaDoor.RuneMath Go.Proofs.YtlmmhlabacghnaaDoor.RA Go.Proofs.YtlmmhlabacghnaaDoorW.PrintWords Go.Proofs.YtlmmhlabacghnaaDoorW.PrintLast Go.Proofs.YtlmmhlabacghnaaDoorW.PrintMore
set_option linter.unusedVariables false
set_option linter.unusedSimpArgs false

theorem one_f (c : Nat) (z : ByteArray × Int) (h : charL [] [(c : Int)] = z) : utflib_Char.f [(c : Int)] = some z := by
  unfold utflib_Char.f
  rw [if_pos (show [(c : Int)].length ≤ 4611686018427387904 by rw [List.length_singleton]; omega), h]
theorem one_L (c : Nat) (hv : Utf8.valid (c : Int) = true) (t : ByteArray) (ht : Utf8.encode (c : Int) = t) (z2 : t.size ≤ 4) : charL [] [(c : Int)] = (t, 0) := by
  simp only [charL]
  rw [if_pos hv, ht]
  have hl : ([] ++ t.data.toList).length = t.size := by
    rw [List.nil_append]
    exact data_length _
  rw [if_neg (by rw [hl]; omega), List.nil_append, Array.toArray_toList]
theorem one_char (c : Nat) (hv : Utf8.valid (c : Int) = true) (z2 : (Utf8.encode (c : Int)).size ≤ 4) : utflib_Char.f [(c : Int)] = some (Utf8.encode (c : Int), 0) :=
  one_f c _ (one_L c hv _ rfl z2)
theorem one_no (a : Int) (hv : ¬ Utf8.valid a = true) : utflib_Char.f [a] = some ((⟨#[]⟩ : ByteArray), 3) := by
  unfold utflib_Char.f
  rw [if_pos (show [a].length ≤ 4611686018427387904 by rw [List.length_singleton]; omega)]
  simp only [charL]
  rw [if_neg hv]
theorem one_len (t : ByteArray) (c : Nat) (z1 : 1 ≤ t.size) (z2 : t.size ≤ 4) (hf : from_ t 0 = [(0, t.size, c)]) (hiv : inv (0, t.size, c) = false) : utflib_Len.f t 1 (-1) = some (1, 0, 0) := by
  unfold utflib_Len.f
  rw [if_pos (by omega), show meansV 1 t.size = 1 from rfl, show meansV (-1) t.size = (t.size : Int) by unfold meansV; rw [if_neg (by omega), if_pos (by omega)]; omega]
  unfold lenV
  rw [if_neg (by omega), show ((1 : Int) - 1).toNat = 0 from rfl]
  unfold spanL
  rw [hf, upto_cons _ _ _ (show ((0 : Nat) : Int) + 1 ≤ t.size by omega)]
  simp only [upto]
  unfold lenL
  rw [badAt_none _ (fun r hr => by obtain rfl := List.mem_singleton.1 hr; exact hiv)]
  rfl
theorem one_codes (t : ByteArray) (c : Nat) (z1 : 1 ≤ t.size) (z2 : t.size ≤ 4) (hf : from_ t 0 = [(0, t.size, c)]) (hiv : inv (0, t.size, c) = false) : utflib_Codes.f t 1 1 = some ([(c : Int)], 0) := by
  unfold utflib_Codes.f
  rw [if_pos (by omega), show meansV 1 t.size = 1 from rfl]
  unfold codesV
  rw [if_neg (by omega), show ((1 : Int) - 1).toNat = 0 from rfl]
  unfold spanL
  rw [hf, upto_cons _ _ _ (show ((0 : Nat) : Int) + 1 ≤ 1 by omega)]
  simp only [upto, codesL]
  rw [if_neg (by rw [hiv]; decide), if_neg (by simp)]
  rfl
theorem one_step (k : Nat) (t : ByteArray) (c : Nat) (z1 : 1 ≤ t.size) (z2 : t.size ≤ 4) (hdec : Utf8.decode t 0 = (c, t.size)) (hiv : inv (0, t.size, c) = false) : utflib_Step.f (k + 10 + 10) t 0 = some (1, (c : Int), true, 0) := by
  rw [show k + 10 + 10 = (k + 18) + 2 by omega, step_prog t (by omega) 0 (k + 18)]
  unfold stepV stepA
  rw [if_neg (by omega), if_neg (by omega), if_neg (by omega), hdec, if_neg (by rw [hiv]; decide)]
  rfl
theorem one_inv (c z : Nat) (z3 : 128 ≤ c → 2 ≤ z) : inv (0, z, c) = false := by
  show ((c == 65533) && (z == 1)) = false
  by_cases h : c = 65533
  · rw [beq_eq_false_iff_ne.2 (show z ≠ 1 by have := z3 (by omega); omega), Bool.and_false]
  · rw [beq_eq_false_iff_ne.2 h, Bool.false_and]
theorem one_all (k : Nat) (a : Int) : trestlelaw17_UtflibOne.f (k + 20) a = some true := by
  unfold trestlelaw17_UtflibOne.f
  rw [fixed_ok, Option.bind_some, if_pos rfl, show k + 20 = (k + 10) + 10 by omega, RC.ref_encode (k + 10) a]
  by_cases hv : Utf8.valid a = true
  · obtain ⟨c, rfl⟩ : ∃ c : Nat, a = (c : Int) := ⟨a.toNat, by have := (RC.valid_iff a).1 hv; omega⟩
    obtain ⟨z1, z2, z3⟩ := RC.encode_size c hv
    have hrs := RC.encode_rs c hv
    have hdec := RC.decode_encode c hv
    rw [if_pos hv, one_char c hv z2, Option.bind_some, Option.bind_some, if_pos rfl]
    dsimp only
    generalize Utf8.encode (c : Int) = t at z1 z2 z3 hrs hdec ⊢
    have hiv := one_inv c t.size z3
    rw [one_len t c z1 z2 hrs hiv, Option.bind_some, one_codes t c z1 z2 hrs hiv, Option.bind_some, one_step k t c z1 z2 hdec hiv, Option.bind_some]
    dsimp only
    simp [rd]
  · rw [if_neg hv, one_no a hv, Option.bind_some, Option.bind_some, if_neg (by decide)]
    dsimp only
    rw [if_pos (by decide +kernel)]
    rfl
theorem utflibOne : trestlelaw17_UtflibOne.Pure := fun a _ => ⟨0 + 20, one_all 0 a⟩
end Go.Proofs.YtlmmhlabacghnaaDoor.UP
