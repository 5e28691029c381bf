/- RunesJoin, in plain numbers: two texts joined have the runes of both, where the first has no bad byte. -/
import Derived.Test.YtlmmhlabacghnaaDoorRList
namespace Go.Proofs.YtlmmhlabacghnaaDoor.RJ
open Go.RowKit Go.Proofs.YtlmmhlabacghnaaDoor.PR Go.Proofs.YtlmmhlabacghnaaDoor.RuneMath Go.Proofs.YtlmmhlabacghnaaDoor.RA Go.Proofs.YtlmmhlabacghnaaDoor.RX Go.Proofs.YtlmmhlabacghnaaDoorW.PrintWords Go.Proofs.YtlmmhlabacghnaaDoorW.PrintLast
set_option linter.unusedVariables false
set_option linter.unusedSimpArgs false

theorem decodeN_stable (n b0 b1 b2 b3 n' c1 c2 c3 : Nat) (hv : ¬ Lib.decodeN n b0 b1 b2 b3 = (65533, 1)) (hw : (Lib.decodeN n b0 b1 b2 b3).2 ≤ n')
    (h1 : 1 < (Lib.decodeN n b0 b1 b2 b3).2 → c1 = b1) (h2 : 2 < (Lib.decodeN n b0 b1 b2 b3).2 → c2 = b2) (h3 : 3 < (Lib.decodeN n b0 b1 b2 b3).2 → c3 = b3) :
    Lib.decodeN n' b0 c1 c2 c3 = Lib.decodeN n b0 b1 b2 b3 := by
  by_cases k0 : b0 < 128
  · unfold Lib.decodeN
    rw [if_pos k0, if_pos k0]
  by_cases k1 : b0 / 32 = 6 ∧ (1 < n ∧ b1 / 64 = 2)
  · by_cases k2 : b0 % 32 * 64 + b1 % 64 ≥ 128
    · have e : Lib.decodeN n b0 b1 b2 b3 = (b0 % 32 * 64 + b1 % 64, 2) := by
        unfold Lib.decodeN
        rw [if_neg k0, if_pos k1, if_pos k2]
      rw [e] at hw h1 ⊢
      obtain rfl := h1 (show (1 : Nat) < 2 by decide)
      unfold Lib.decodeN
      simp only at hw
      rw [if_neg k0, if_pos ⟨k1.1, by omega, k1.2.2⟩, if_pos k2]
    · refine absurd ?_ hv
      unfold Lib.decodeN
      rw [if_neg k0, if_pos k1, if_neg k2]
  by_cases k3 : b0 / 16 = 14 ∧ (1 < n ∧ b1 / 64 = 2) ∧ (2 < n ∧ b2 / 64 = 2)
  · by_cases k4 : b0 % 16 * 4096 + b1 % 64 * 64 + b2 % 64 ≥ 2048 ∧ (b0 % 16 * 4096 + b1 % 64 * 64 + b2 % 64 < 55296 ∨ (57344 ≤ b0 % 16 * 4096 + b1 % 64 * 64 + b2 % 64 ∧ b0 % 16 * 4096 + b1 % 64 * 64 + b2 % 64 ≤ 1114111))
    · have e : Lib.decodeN n b0 b1 b2 b3 = (b0 % 16 * 4096 + b1 % 64 * 64 + b2 % 64, 3) := by
        unfold Lib.decodeN
        rw [if_neg k0, if_neg k1, if_pos k3, if_pos k4]
      rw [e] at hw h1 h2 ⊢
      obtain rfl := h1 (show (1 : Nat) < 3 by decide)
      obtain rfl := h2 (show (2 : Nat) < 3 by decide)
      unfold Lib.decodeN
      simp only at hw
      rw [if_neg k0, if_neg (by omega), if_pos ⟨k3.1, ⟨by omega, k3.2.1.2⟩, by omega, k3.2.2.2⟩, if_pos k4]
    · refine absurd ?_ hv
      unfold Lib.decodeN
      rw [if_neg k0, if_neg k1, if_pos k3, if_neg k4]
  by_cases k5 : b0 / 8 = 30 ∧ (1 < n ∧ b1 / 64 = 2) ∧ (2 < n ∧ b2 / 64 = 2) ∧ (3 < n ∧ b3 / 64 = 2)
  · by_cases k6 : b0 % 8 * 262144 + b1 % 64 * 4096 + b2 % 64 * 64 + b3 % 64 ≥ 65536 ∧ (b0 % 8 * 262144 + b1 % 64 * 4096 + b2 % 64 * 64 + b3 % 64 < 55296 ∨ (57344 ≤ b0 % 8 * 262144 + b1 % 64 * 4096 + b2 % 64 * 64 + b3 % 64 ∧ b0 % 8 * 262144 + b1 % 64 * 4096 + b2 % 64 * 64 + b3 % 64 ≤ 1114111))
    · have e : Lib.decodeN n b0 b1 b2 b3 = (b0 % 8 * 262144 + b1 % 64 * 4096 + b2 % 64 * 64 + b3 % 64, 4) := by
        unfold Lib.decodeN
        rw [if_neg k0, if_neg k1, if_neg k3, if_pos k5, if_pos k6]
      rw [e] at hw h1 h2 h3 ⊢
      obtain rfl := h1 (show (1 : Nat) < 4 by decide)
      obtain rfl := h2 (show (2 : Nat) < 4 by decide)
      obtain rfl := h3 (show (3 : Nat) < 4 by decide)
      unfold Lib.decodeN
      simp only at hw
      rw [if_neg k0, if_neg (by omega), if_neg (by omega), if_pos ⟨k5.1, ⟨by omega, k5.2.1.2⟩, ⟨by omega, k5.2.2.1.2⟩, by omega, k5.2.2.2.2⟩, if_pos k6]
    · refine absurd ?_ hv
      unfold Lib.decodeN
      rw [if_neg k0, if_neg k1, if_neg k3, if_pos k5, if_neg k6]
  · refine absurd ?_ hv
    unfold Lib.decodeN
    rw [if_neg k0, if_neg k1, if_neg k3, if_neg k5]

/-- A good rune's bytes say what it is, wherever they stand. -/
theorem decode_stable (s u : ByteArray) (p q : Nat) (hv : ¬ Utf8.decode s p = (65533, 1)) (hw : (Utf8.decode s p).2 ≤ u.size - q) (hb : ∀ i, i < (Utf8.decode s p).2 → u.get! (q + i) = s.get! (p + i)) (hp : p < s.size) :
    Utf8.decode u q = Utf8.decode s p := by
  have h0 := hb 0 (by have := width_pos s p hp; omega)
  have h1 := hb 1
  have h2 := hb 2
  have h3 := hb 3
  rw [Lib.decode_at s p] at hv hw h1 h2 h3 ⊢
  rw [Lib.decode_at u q]
  rw [Nat.add_zero, Nat.add_zero] at h0
  rw [h0]
  exact decodeN_stable _ _ _ _ _ _ _ _ _ hv hw (fun h => by rw [h1 h]) (fun h => by rw [h2 h]) (fun h => by rw [h3 h])

def shift (P : Nat) (r : R3) : R3 := (P + r.1, r.2.1, r.2.2)
/-- u's end is t. -/
def EndIs (u t : ByteArray) (P : Nat) : Prop := u.size = P + t.size ∧ ∀ q, u.get! (P + q) = t.get! q
theorem decode_end {u t : ByteArray} {P : Nat} (h : EndIs u t P) (q : Nat) : Utf8.decode u (P + q) = Utf8.decode t q := by
  rw [Lib.decode_at, Lib.decode_at, h.1, show P + t.size - (P + q) = t.size - q by omega, h.2 q]
  have h1 := h.2 (q + 1)
  have h2 := h.2 (q + 2)
  have h3 := h.2 (q + 3)
  rw [← Nat.add_assoc] at h1 h2 h3
  rw [h1, h2, h3]
theorem scan_end {u t : ByteArray} {P : Nat} (h : EndIs u t P) : ∀ f q, scan u f (P + q) = (scan t f q).map (shift P)
  | 0, q => rfl
  | f + 1, q => by
    simp only [scan]
    by_cases hq : q < t.size
    · rw [if_pos hq, if_pos (by rw [h.1]; omega), decode_end h q, Nat.add_assoc, scan_end h f]
      rfl
    · rw [if_neg hq, if_neg (by rw [h.1]; omega)]
      rfl
theorem from_end {u t : ByteArray} {P : Nat} (h : EndIs u t P) : from_ u P = (rs t).map (shift P) := by
  have := scan_end h (u.size - P) 0
  rw [Nat.add_zero] at this
  unfold from_ rs from_
  rw [this, h.1, show P + t.size - P = t.size - 0 by omega]

theorem from_good (s u : ByteArray) : ∀ (pre suf : List R3) (f p : Nat), scan s f p = pre ++ suf → (∀ r ∈ pre, inv r = false) → p + bytes3 pre ≤ u.size → (∀ i, p ≤ i → i < p + bytes3 pre → u.get! i = s.get! i) →
    from_ u p = pre ++ from_ u (p + bytes3 pre)
  | [], suf, f, p, _, _, _, _ => by simp [bytes3]
  | r :: pre, suf, 0, p, h, _, _, _ => by simp [scan] at h
  | r :: pre, suf, f + 1, p, h, hv, hu, hb => by
    simp only [scan] at h
    by_cases hp : p < s.size
    · rw [if_pos hp] at h
      simp only [List.cons_append, List.cons.injEq] at h
      obtain ⟨h0, h1⟩ := h
      have hr := hv r List.mem_cons_self
      have e : bytes3 (r :: pre) = (Utf8.decode s p).2 + bytes3 pre := by rw [← h0]; simp [bytes3]
      rw [e] at hu hb ⊢
      have hw := width_pos s p hp
      have hd : Utf8.decode u p = Utf8.decode s p := by
        refine decode_stable s u p p ?_ (by omega) (fun i hi => hb (p + i) (by omega) (by omega)) hp
        intro hbad
        rw [← h0] at hr
        simp [inv, hbad] at hr
      have ih := from_good s u pre suf f (p + (Utf8.decode s p).2) h1 (fun x hx => hv x (List.mem_cons_of_mem _ hx)) (by omega) (fun i h1 h2 => hb i (by omega) (by omega))
      rw [from_lt u p (by omega), hd, ih, ← h0, Nat.add_assoc]
      rfl
    · rw [if_neg hp] at h
      cases h

/-- The runes before the first bad one. -/
theorem firstBad_split : ∀ l : List R3, (firstBad l = -1 ∧ ∀ r ∈ l, inv r = false) ∨ ∃ pre r suf, l = pre ++ r :: suf ∧ firstBad l = (r.1 : Int) ∧ ∀ x ∈ pre, inv x = false
  | [] => .inl ⟨rfl, fun r h => by cases h⟩
  | r :: l => by
    simp only [firstBad]
    by_cases h : inv r = true
    · rw [if_pos h]
      exact .inr ⟨[], r, l, rfl, rfl, fun x hx => by cases hx⟩
    · rw [if_neg h]
      have h' : inv r = false := by simpa using h
      rcases firstBad_split l with ⟨h1, h2⟩ | ⟨pre, x, suf, h1, h2, h3⟩
      · refine .inl ⟨h1, fun x hx => ?_⟩
        rcases List.mem_cons.1 hx with rfl | hx
        · exact h'
        · exact h2 x hx
      · refine .inr ⟨r :: pre, x, suf, by rw [h1]; rfl, h2, fun y hy => ?_⟩
        rcases List.mem_cons.1 hy with rfl | hy
        · exact h'
        · exact h3 y hy

theorem get_lt (s : ByteArray) (i : Nat) (h : i < s.size) : s.get! i = s[i]'h := (show s.get! i = s.data[i]! from rfl).trans (getElem!_pos s.data i h)
theorem get_ge (s : ByteArray) (i : Nat) (h : ¬ i < s.size) : s.get! i = default := (show s.get! i = s.data[i]! from rfl).trans (getElem!_neg s.data i h)
theorem end_append (x t : ByteArray) : EndIs (x ++ t) t x.size := by
  refine ⟨ByteArray.size_append, fun q => ?_⟩
  by_cases h : q < t.size
  · rw [get_lt _ _ (by rw [ByteArray.size_append]; omega), get_lt _ _ h]
    rw [ByteArray.getElem_append_right (by omega)]
    congr 1
    omega
  · rw [get_ge _ _ (by rw [ByteArray.size_append]; omega), get_ge _ _ h]
theorem head_append (x t : ByteArray) (i : Nat) (h : i < x.size) : (x ++ t).get! i = x.get! i := by
  rw [get_lt _ _ (by rw [ByteArray.size_append]; omega), get_lt _ _ h, ByteArray.getElem_append_left h]
theorem head_extract (s : ByteArray) (P i : Nat) (hP : P ≤ s.size) (h : i < P) : (s.extract 0 P).get! i = s.get! i := by
  have hs : (s.extract 0 P).size = P := by simp; omega
  rw [get_lt _ _ (by omega), get_lt _ _ (by omega)]
  first | simp [ByteArray.getElem_extract] | (rw [ByteArray.getElem_extract]; congr 1; omega) | (show (s.data.extract 0 P)[i] = s.data[i]; simp)

/-- THE JOINING: a good beginning, then any text. -/
theorem join (s t : ByteArray) (pre suf : List R3) (h : rs s = pre ++ suf) (hv : ∀ r ∈ pre, inv r = false) (hP : bytes3 pre ≤ s.size) :
    rs (s.extract 0 (bytes3 pre) ++ t) = pre ++ (rs t).map (shift (bytes3 pre)) := by
  have hs : (s.extract 0 (bytes3 pre)).size = bytes3 pre := by simp; omega
  have he := end_append (s.extract 0 (bytes3 pre)) t
  rw [hs] at he
  have hf := from_good s (s.extract 0 (bytes3 pre) ++ t) pre suf _ 0 h hv (by rw [he.1]; omega) (fun i _ hi => by rw [head_append _ _ _ (by omega), head_extract _ _ _ hP (by omega)])
  rw [Nat.zero_add, from_end he] at hf
  exact hf
theorem empty_rs : rs ByteArray.empty = [] := rfl
end Go.Proofs.YtlmmhlabacghnaaDoor.RJ
