/- The plain law of RunesOrder: code points and their encodings have one order. -/
import Derived.Test.YtlmmhlabacghnaaPRx2
import Derived.Lib.Strings
namespace Go.Proofs.Ytlmmhlabacghnaa.RO
open Go.RowKit Go.Proofs.Ytlmmhlabacghnaa.PR Go.Proofs.YtlmmhlabacghnaaW.PrintWords Go.Proofs.YtlmmhlabacghnaaW.PrintLast
set_option linter.unusedVariables false
set_option linter.unusedSimpArgs false

theorem fixed_ok : trestlelaw01_fixed.f = some true := by decide +kernel

def lexN : List Nat → List Nat → Bool
  | _, [] => false
  | [], _ :: _ => true
  | a :: x, b :: y => decide (a < b) || (a == b && lexN x y)
theorem less_lex : ∀ l m : List Nat, (∀ x ∈ l, x < 256) → (∀ x ∈ m, x < 256) → Op.bytesLess (l.map UInt8.ofNat) (m.map UInt8.ofNat) = lexN l m
  | [], [], _, _ => rfl
  | _ :: _, [], _, _ => rfl
  | [], _ :: _, _, _ => rfl
  | a :: x, b :: y, h1, h2 => by
    have ha := h1 a List.mem_cons_self
    have hb := h2 b List.mem_cons_self
    have ih := less_lex x y (fun z hz => h1 z (List.mem_cons_of_mem _ hz)) (fun z hz => h2 z (List.mem_cons_of_mem _ hz))
    simp only [List.map_cons, Op.bytesLess, lexN, ih]
    congr 1
    · rw [decide_eq_decide, UInt8.lt_iff_toNat_lt]
      simp [Nat.mod_eq_of_lt ha, Nat.mod_eq_of_lt hb]
    · congr 1
      rw [Bool.eq_iff_iff]
      simp only [beq_iff_eq]
      constructor
      · intro h
        have := congrArg UInt8.toNat h
        simpa [Nat.mod_eq_of_lt ha, Nat.mod_eq_of_lt hb] using this
      · intro h
        rw [h]
theorem map_inj : ∀ l m : List Nat, (∀ x ∈ l, x < 256) → (∀ x ∈ m, x < 256) → l.map UInt8.ofNat = m.map UInt8.ofNat → l = m
  | [], [], _, _, _ => rfl
  | _ :: _, [], _, _, h => by simp at h
  | [], _ :: _, _, _, h => by simp at h
  | a :: x, b :: y, h1, h2, h => by
    have ha := h1 a List.mem_cons_self
    have hb := h2 b List.mem_cons_self
    simp only [List.map_cons, List.cons.injEq] at h
    have e := congrArg UInt8.toNat h.1
    simp [Nat.mod_eq_of_lt ha, Nat.mod_eq_of_lt hb] at e
    rw [e, map_inj x y (fun z hz => h1 z (List.mem_cons_of_mem _ hz)) (fun z hz => h2 z (List.mem_cons_of_mem _ hz)) h.2]

/-- The bytes of a code point, as numbers. -/
def encN (c : Nat) : List Nat :=
  if c < 128 then [c]
  else if c < 2048 then [192 + c / 64, 128 + c % 64]
  else if c < 65536 then [224 + c / 4096, 128 + c / 64 % 64, 128 + c % 64]
  else [240 + c / 262144, 128 + c / 4096 % 64, 128 + c / 64 % 64, 128 + c % 64]
theorem encN_lt (c : Nat) (h : c ≤ 1114111) : ∀ x ∈ encN c, x < 256 := by
  intro x hx
  unfold encN at hx
  split at hx
  · simp at hx; omega
  split at hx
  · simp at hx; omega
  split at hx
  · simp at hx; omega
  · simp at hx; omega
theorem encode_list (n : Int) (h : Utf8.valid n = true) : (Utf8.encode n).data.toList = (encN n.toNat).map UInt8.ofNat := by
  unfold Utf8.encode encN
  simp only [h, if_true]
  split
  · rfl
  split
  · rfl
  split
  · rfl
  · rfl
theorem valid_le {n : Int} (h : Utf8.valid n = true) : 0 ≤ n ∧ n ≤ 1114111 := by
  have := (valid_iff n).1 h
  omega

theorem lex_enc (a b : Nat) (ha : a ≤ 1114111) (hb : b ≤ 1114111) : lexN (encN a) (encN b) = decide (a < b) := by
  unfold encN
  rw [Bool.eq_iff_iff, decide_eq_true_eq]
  by_cases a1 : a < 128 <;> by_cases b1 : b < 128 <;> simp only [a1, b1, if_true, if_false]
  · simp [lexN]
  · by_cases b2 : b < 2048 <;> simp only [b2, if_true, if_false]
    · simp [lexN]; omega
    by_cases b3 : b < 65536 <;> simp only [b3, if_true, if_false]
    · simp [lexN]; omega
    · simp [lexN]; omega
  · by_cases a2 : a < 2048 <;> simp only [a2, if_true, if_false]
    · simp [lexN]; omega
    by_cases a3 : a < 65536 <;> simp only [a3, if_true, if_false]
    · simp [lexN]; omega
    · simp [lexN]; omega
  · by_cases a2 : a < 2048 <;> by_cases b2 : b < 2048 <;> simp only [a2, b2, if_true, if_false]
    · simp [lexN]; omega
    · by_cases b3 : b < 65536 <;> simp only [b3, if_true, if_false]
      · simp [lexN]; omega
      · simp [lexN]; omega
    · by_cases a3 : a < 65536 <;> simp only [a3, if_true, if_false]
      · simp [lexN]; omega
      · simp [lexN]; omega
    · by_cases a3 : a < 65536 <;> by_cases b3 : b < 65536 <;> simp only [a3, b3, if_true, if_false]
      · simp [lexN]; omega
      · simp [lexN]; omega
      · simp [lexN]; omega
      · simp [lexN]; omega

theorem lexN_irrefl : ∀ l : List Nat, lexN l l = false
  | [] => rfl
  | a :: l => by simp [lexN, lexN_irrefl l]

theorem runesOrder (a b : Int) : trestlelaw01_RunesOrder.f a b = some true := by
  unfold trestlelaw01_RunesOrder.f runes_Encode.f
  simp only [Option.bind_some]
  rw [fixed_ok]
  simp only [Option.bind_some]
  rw [if_pos trivial]
  by_cases ha : Utf8.valid a = true
  · by_cases hb : Utf8.valid b = true
    · rw [if_pos ha, if_pos hb, if_pos rfl, if_pos rfl]
      have la := valid_le ha
      have lb := valid_le hb
      have h1 : Op.bytesLess (Utf8.encode a).toList (Utf8.encode b).toList = decide (a < b) := by
        rw [Lib.toList_data, Lib.toList_data, encode_list a ha, encode_list b hb, less_lex _ _ (encN_lt _ (by omega)) (encN_lt _ (by omega)), lex_enc _ _ (by omega) (by omega), decide_eq_decide]
        omega
      have h2 : ((Utf8.encode a).toList == (Utf8.encode b).toList) = (a == b) := by
        rw [Bool.eq_iff_iff]
        simp only [beq_iff_eq]
        constructor
        · intro h
          rw [Lib.toList_data, Lib.toList_data, encode_list a ha, encode_list b hb] at h
          have e := map_inj _ _ (encN_lt _ (by omega)) (encN_lt _ (by omega)) h
          have l1 := lex_enc a.toNat b.toNat (by omega) (by omega)
          have l2 := lex_enc b.toNat a.toNat (by omega) (by omega)
          rw [e, lexN_irrefl] at l1
          rw [e, lexN_irrefl] at l2
          have l1 := of_decide_eq_false l1.symm
          have l2 := of_decide_eq_false l2.symm
          omega
        · rintro rfl
          rfl
      rw [h1, h2]
      simp
    · rw [if_pos ha, if_neg hb, if_pos rfl, if_neg (by decide)]
  · rw [if_neg ha, if_neg (by decide)]
    congr 1
    decide +kernel

end Go.Proofs.Ytlmmhlabacghnaa.RO
