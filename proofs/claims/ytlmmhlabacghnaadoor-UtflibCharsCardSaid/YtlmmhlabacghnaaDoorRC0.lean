/- A code point's bytes are the reference's, and read back as it. -/
import Derived.Test.YtlmmhlabacghnaaDoorRA
import Derived.Test.YtlmmhlabacghnaaDoorPRx3
namespace Go.Proofs.YtlmmhlabacghnaaDoor.RC
open Go.RowKit Go.Proofs.YtlmmhlabacghnaaDoor.PR Go.Proofs.YtlmmhlabacghnaaDoor.RuneMath Go.Proofs.YtlmmhlabacghnaaDoor.RA Go.Proofs.YtlmmhlabacghnaaDoorW.PrintWords Go.Proofs.YtlmmhlabacghnaaDoorW.PrintLast
set_option linter.unusedVariables false
set_option linter.unusedSimpArgs false

theorem valid_iff (n : Int) : Utf8.valid n = true ↔ goodV n := by
  unfold Utf8.valid goodV
  simp only [Bool.or_eq_true, Bool.and_eq_true, decide_eq_true_eq]
  omega

/-- The bytes of a code point, as numbers. -/
def encN (c : Nat) : List Nat :=
  if c < 128 then [c]
  else if c < 2048 then [192 + c / 64, 128 + c % 64]
  else if c < 65536 then [224 + c / 4096, 128 + c / 64 % 64, 128 + c % 64]
  else [240 + c / 262144, 128 + c / 4096 % 64, 128 + c / 64 % 64, 128 + c % 64]
theorem encode_eq (c : Nat) (h : Utf8.valid (c : Int) = true) : Utf8.encode (c : Int) = ⟨((encN c).map UInt8.ofNat).toArray⟩ := by
  unfold Utf8.encode encN
  simp only [h, if_true, Int.toNat_natCast]
  split
  · rfl
  split
  · rfl
  split
  · rfl
  · rfl

theorem tdiv_nat (c : Nat) : Int.tdiv (c : Int) 64 = ((c / 64 : Nat) : Int) := by
  rw [Int.tdiv_eq_ediv_of_nonneg (by omega)]
  omega
theorem tmod_nat (c : Nat) : Int.tmod (c : Int) 64 = ((c % 64 : Nat) : Int) := by
  rw [Int.tmod_eq_emod_of_nonneg (by omega)]
  omega
theorem strOf (l : List Nat) : strOfNums (l.map fun (n : Nat) => (n : Int)) = ⟨(l.map UInt8.ofNat).toArray⟩ := by
  unfold strOfNums
  rw [List.map_map]
  rfl

theorem l0_more (k : Nat) (c : Nat) (m : Int) (xs : List Int) (i : Int) (hc : c ≤ 1114111) (h0 : 0 < i) (h1 : i < xs.length) (h2 : xs.length ≤ 4) :
    trestleref01_Encode.l0 (k + 1) c m xs i = trestleref01_Encode.l0 k ((c / 64 : Nat) : Int) m (xs.set i.toNat ((128 + c % 64 : Nat) : Int)) (i - 1) := by
  simp only [trestleref01_Encode.l0]
  rw [if_pos (by omega), if_pos (by omega), if_pos h1, tdiv_nat, tmod_nat, RA.w64_id _ (by omega) (by omega), RA.w64_id _ (by omega) (by omega), RA.w64_id _ (by omega) (by omega)]
  congr 2
  omega
theorem l0_last (k : Nat) (c : Nat) (m : Int) (xs : List Int) (b : Nat) (h2 : 0 < xs.length) (hb : (m = 2 ∧ b = 192 ∧ c < 32) ∨ (m = 3 ∧ b = 224 ∧ c < 16) ∨ (m = 4 ∧ b = 240 ∧ c < 8)) :
    trestleref01_Encode.l0 (k + 1) c m xs 0 = some (strOfNums (xs.set 0 ((b + c : Nat) : Int)), 0) := by
  simp only [trestleref01_Encode.l0]
  rw [if_neg (by omega)]
  rcases hb with ⟨rfl, rfl, h⟩ | ⟨rfl, rfl, h⟩ | ⟨rfl, rfl, h⟩
  · rw [if_neg (by decide), if_neg (by decide), if_pos (by omega), RA.w64_id _ (by omega) (by omega)]
    rw [show ((192 + (c : Int)) % 256) = ((192 + c : Nat) : Int) by omega]
    rfl
  · rw [if_pos rfl, if_neg (by decide), if_pos (by omega), RA.w64_id _ (by omega) (by omega)]
    rw [show ((224 + (c : Int)) % 256) = ((224 + c : Nat) : Int) by omega]
    rfl
  · rw [if_neg (by decide), if_pos rfl, if_pos (by omega), RA.w64_id _ (by omega) (by omega)]
    rw [show ((240 + (c : Int)) % 256) = ((240 + c : Nat) : Int) by omega]
    rfl

theorem ref_encode (k : Nat) (a : Int) : trestleref01_Encode.f (k + 10) a = some (if Utf8.valid a = true then (Utf8.encode a, 0) else ((⟨#[]⟩ : ByteArray), 3)) := by
  unfold trestleref01_Encode.f
  rw [good_eq, Option.bind_some]
  by_cases h : goodV a
  · obtain ⟨c, rfl⟩ : ∃ c : Nat, a = c := ⟨a.toNat, by have := h.1; omega⟩
    have hv := (valid_iff _).2 h
    have hc : c ≤ 1114111 := by have := h.2.1; omega
    rw [if_pos (decide_eq_true h), if_pos hv, bytes_eq, Option.bind_some, encode_eq c hv]
    by_cases c1 : c < 128
    · have e : bytesV (c : Int) = 1 := by unfold bytesV; rw [if_pos (by omega)]
      rw [e, if_pos rfl]
      unfold encN
      rw [if_pos c1]
      rw [show ((c : Int) % 256) = ((c : Nat) : Int) by omega]
      exact congrArg (fun x => some (x, (0 : Int))) (strOf [c])
    · by_cases c2 : c < 2048
      · have e : bytesV (c : Int) = 2 := by unfold bytesV; rw [if_neg (by omega), if_pos (by omega)]
        rw [e, if_neg (by decide), if_pos (by decide), if_pos (by decide)]
        unfold encN
        rw [if_neg c1, if_pos c2]
        rw [RA.w64_id _ (by omega) (by omega), show ((2 : Int) - 1) = 1 by decide]
        refine (l0_more (k + 9) c 2 [0, 0] 1 hc (by decide) (by decide) (by decide)).trans ?_
        refine (l0_last (k + 8) (c / 64) 2 _ 192 (by simp) (by omega)).trans ?_
        exact congrArg (fun x => some (x, (0 : Int))) (strOf [192 + c / 64, 128 + c % 64])
      · by_cases c3 : c < 65536
        · have e : bytesV (c : Int) = 3 := by unfold bytesV; rw [if_neg (by omega), if_neg (by omega), if_pos (by omega)]
          rw [e, if_neg (by decide), if_pos (by decide), if_pos (by decide)]
          unfold encN
          rw [if_neg c1, if_neg c2, if_pos c3]
          rw [RA.w64_id _ (by omega) (by omega), show ((3 : Int) - 1) = 2 by decide]
          refine (l0_more (k + 9) c 3 [0, 0, 0] 2 hc (by decide) (by decide) (by decide)).trans ?_
          refine (l0_more (k + 8) (c / 64) 3 _ 1 (by omega) (by decide) (by simp) (by simp)).trans ?_
          refine (l0_last (k + 7) (c / 64 / 64) 3 _ 224 (by simp) (by omega)).trans ?_
          rw [show c / 64 / 64 = c / 4096 by omega]
          exact congrArg (fun x => some (x, (0 : Int))) (strOf [224 + c / 4096, 128 + c / 64 % 64, 128 + c % 64])
        · have e : bytesV (c : Int) = 4 := by unfold bytesV; rw [if_neg (by omega), if_neg (by omega), if_neg (by omega)]
          rw [e, if_neg (by decide), if_pos (by decide), if_pos (by decide)]
          unfold encN
          rw [if_neg c1, if_neg c2, if_neg c3]
          rw [RA.w64_id _ (by omega) (by omega), show ((4 : Int) - 1) = 3 by decide]
          refine (l0_more (k + 9) c 4 [0, 0, 0, 0] 3 hc (by decide) (by decide) (by decide)).trans ?_
          refine (l0_more (k + 8) (c / 64) 4 _ 2 (by omega) (by decide) (by simp) (by simp)).trans ?_
          refine (l0_more (k + 7) (c / 64 / 64) 4 _ 1 (by omega) (by decide) (by simp) (by simp)).trans ?_
          refine (l0_last (k + 6) (c / 64 / 64 / 64) 4 _ 240 (by simp) (by omega)).trans ?_
          rw [show c / 64 / 64 / 64 = c / 262144 by omega, show c / 64 / 64 = c / 4096 by omega]
          exact congrArg (fun x => some (x, (0 : Int))) (strOf [240 + c / 262144, 128 + c / 4096 % 64, 128 + c / 64 % 64, 128 + c % 64])
  · rw [if_neg (by simpa using h), if_neg (fun hv => h ((valid_iff _).1 hv))]

theorem get_list (l : List UInt8) (i : Nat) : (⟨l.toArray⟩ : ByteArray).get! i = l[i]?.getD 0 := by
  show l.toArray[i]! = _
  rw [Array.getElem!_eq_getD, Array.getD_eq_getD_getElem?]
  simp
  rfl
theorem size_list (l : List UInt8) : (⟨l.toArray⟩ : ByteArray).size = l.length := rfl
theorem toNat_of {n : Nat} (h : n < 256) : (UInt8.ofNat n).toNat = n := by simp [Nat.mod_eq_of_lt h]

/-- What a code point's bytes read back as. -/
theorem decode_encode (c : Nat) (h : Utf8.valid (c : Int) = true) : Utf8.decode (Utf8.encode (c : Int)) 0 = (c, (Utf8.encode (c : Int)).size) := by
  have hg := (valid_iff _).1 h
  have hc : c ≤ 1114111 := by have := hg.2.1; omega
  have hd : c < 55296 ∨ 57343 < c := by have := hg.2.2; omega
  rw [encode_eq c h, Lib.decode_at, size_list, get_list, get_list, get_list, get_list]
  unfold encN
  by_cases c1 : c < 128
  · rw [if_pos c1]
    simp only [List.map_cons, List.map_nil, List.length_cons, List.length_nil, List.getElem?_cons_zero, Option.getD_some, toNat_of (show c < 256 by omega)]
    unfold Lib.decodeN
    rw [if_pos c1]
  · rw [if_neg c1]
    by_cases c2 : c < 2048
    · rw [if_pos c2]
      simp only [List.map_cons, List.map_nil, List.length_cons, List.length_nil, List.getElem?_cons_zero, List.getElem?_cons_succ, Option.getD_some, toNat_of (show 192 + c / 64 < 256 by omega), toNat_of (show 128 + c % 64 < 256 by omega)]
      unfold Lib.decodeN
      rw [if_neg (by omega), if_pos (by omega), if_pos (by omega)]
      refine Prod.ext ?_ rfl
      dsimp only
      omega
    · rw [if_neg c2]
      by_cases c3 : c < 65536
      · rw [if_pos c3]
        simp only [List.map_cons, List.map_nil, List.length_cons, List.length_nil, List.getElem?_cons_zero, List.getElem?_cons_succ, Option.getD_some, toNat_of (show 224 + c / 4096 < 256 by omega), toNat_of (show 128 + c / 64 % 64 < 256 by omega), toNat_of (show 128 + c % 64 < 256 by omega)]
        unfold Lib.decodeN
        rw [if_neg (by omega), if_neg (by omega), if_pos (by omega), if_pos (by omega)]
        refine Prod.ext ?_ rfl
        dsimp only
        omega
      · rw [if_neg c3]
        simp only [List.map_cons, List.map_nil, List.length_cons, List.length_nil, List.getElem?_cons_zero, List.getElem?_cons_succ, Option.getD_some, toNat_of (show 240 + c / 262144 < 256 by omega), toNat_of (show 128 + c / 4096 % 64 < 256 by omega), toNat_of (show 128 + c / 64 % 64 < 256 by omega), toNat_of (show 128 + c % 64 < 256 by omega)]
        unfold Lib.decodeN
        rw [if_neg (by omega), if_neg (by omega), if_neg (by omega), if_pos (by omega), if_pos (by omega)]
        refine Prod.ext ?_ rfl
        dsimp only
        omega
theorem encode_size (c : Nat) (h : Utf8.valid (c : Int) = true) : 1 ≤ (Utf8.encode (c : Int)).size ∧ (Utf8.encode (c : Int)).size ≤ 4 ∧ (128 ≤ c → 2 ≤ (Utf8.encode (c : Int)).size) := by
  rw [encode_eq c h, size_list]
  unfold encN
  split
  · simp; omega
  split
  · simp
  split
  · simp
  · simp
theorem encode_rs (c : Nat) (h : Utf8.valid (c : Int) = true) : rs (Utf8.encode (c : Int)) = [(0, (Utf8.encode (c : Int)).size, c)] := by
  have hs := encode_size c h
  show from_ (Utf8.encode (c : Int)) 0 = _
  rw [from_lt _ 0 (by omega), decode_encode c h, from_ge _ _ (by simp)]
end Go.Proofs.YtlmmhlabacghnaaDoor.RC
