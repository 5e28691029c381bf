/- The reference's own decoding, byte by byte: it is the model's. -/
import Derived.Test.YtlmmhlabacghnaaDoorPRx7
import Derived.Test.YtlmmhlabacghnaaDoorTurned
import Derived.Lib.DecodeN
namespace Go.Proofs.YtlmmhlabacghnaaDoor.RA
open Go.RowKit Go.Proofs.YtlmmhlabacghnaaDoor.PR Go.Proofs.YtlmmhlabacghnaaDoor.RuneMath Go.Proofs.YtlmmhlabacghnaaDoorW.PrintWords Go.Proofs.YtlmmhlabacghnaaDoorW.PrintLast
set_option linter.unusedVariables false
set_option linter.unusedSimpArgs false

theorem w64_id (n : Int) (h0 : -9223372036854775808 ≤ n) (h1 : n ≤ 9223372036854775807) : wrap64 n = n := by unfold wrap64; omega
theorem bt_get (s : ByteArray) (p i : Nat) (h : p + i < s.size) : bt s ((p : Int) + (i : Int)) = ((s.get! (p + i)).toNat : Int) := by
  have e : ((p : Int) + (i : Int)).toNat = p + i := by omega
  have h' : ((p : Int) + (i : Int)).toNat < s.size := by omega
  unfold bt
  rw [dif_pos h']
  have h2 : s.get! (p + i) = s[p + i]'h := (show s.get! (p + i) = s.data[p + i]! from rfl).trans (getElem!_pos s.data (p + i) h)
  rw [h2]
  simp only [e]

/-- How many bytes a code point takes. -/
def bytesV (x : Int) : Int := if x < 128 then 1 else if x < 2048 then 2 else if x < 65536 then 3 else 4
theorem bytes_eq (k : Nat) (x : Int) : trestleref01_bytes.f (k + 1) x = some (bytesV x) := by
  unfold trestleref01_bytes.f bytesV
  simp only [trestleref01_bytes.j0]
  repeat' split
  all_goals first | rfl | (exfalso; omega) | (simp [wrap64]; done) | (unfold wrap64; congr 1)
abbrev goodV (x : Int) : Prop := 0 ≤ x ∧ x ≤ 1114111 ∧ (x < 55296 ∨ 57343 < x)
theorem good_eq (x : Int) : trestleref01_good.f x = some (decide (goodV x)) := by
  unfold trestleref01_good.f
  split
  · split
    · split
      · congr 1
        rw [eq_comm, decide_eq_true_iff]
        omega
      · congr 1
        rw [decide_eq_decide]
        omega
    · congr 1
      rw [eq_comm, decide_eq_false_iff_not]
      omega
  · congr 1
    rw [eq_comm, decide_eq_false_iff_not]
    omega
def endV (p m x : Int) : Int × Int × Int := if goodV x ∧ bytesV x = m then (p, m, x) else (p, 1, 65533)
theorem l0_end (k : Nat) (s : ByteArray) (p m x : Int) : trestleref01_At.l0 (k + 2) s p m x m = some (endV p m x) := by
  show trestleref01_At.l0 ((k + 1) + 1) s p m x m = _
  simp only [trestleref01_At.l0]
  rw [if_neg (by omega), good_eq]
  simp only [Option.bind_some, decide_eq_true_eq]
  unfold endV
  by_cases h : goodV x
  · rw [if_pos h, bytes_eq]
    simp only [Option.bind_some]
    by_cases h2 : bytesV x = m
    · rw [if_pos h2, if_pos ⟨h, h2⟩]
    · rw [if_neg h2, if_neg (by rintro ⟨_, h3⟩; exact h2 h3)]
  · rw [if_neg h, if_neg (by rintro ⟨h3, _⟩; exact h h3)]

theorem l0_step (k : Nat) (s : ByteArray) (p i : Nat) (m x : Int) (hs : s.size ≤ 140737488355328) (hp : p < s.size) (hi : (i : Int) < m) (hm : m ≤ 4) (hx : 0 ≤ x ∧ x ≤ 1000000000) :
    trestleref01_At.l0 (k + 1) s p m x i = if m ≤ (s.size : Int) - p ∧ (s.get! (p + i)).toNat / 64 = 2 then trestleref01_At.l0 k s p m (x * 64 + ((s.get! (p + i)).toNat : Int) - 128) ((i : Int) + 1) else some (p, 1, 65533) := by
  simp only [trestleref01_At.l0]
  rw [if_pos hi, w64_id ((s.size : Int) - p) (by omega) (by omega)]
  by_cases h1 : m > (s.size : Int) - p
  · rw [if_pos h1, if_neg (by omega)]
  · rw [if_neg h1, w64_id ((p : Int) + i) (by omega) (by omega), if_pos (by omega), if_pos (by omega), bt_get s p i (by omega)]
    have hb := (s.get! (p + i)).toNat_lt
    by_cases h2 : ((s.get! (p + i)).toNat : Int) < 128
    · rw [if_pos h2, if_neg (by omega)]
    · rw [if_neg h2]
      by_cases h3 : ((s.get! (p + i)).toNat : Int) ≥ 192
      · rw [if_pos h3, if_neg (by omega)]
      · rw [if_neg h3, if_pos (by omega), w64_id (x * 64) (by omega) (by omega), w64_id ((s.get! (p + i)).toNat : Int) (by omega) (by omega), w64_id (x * 64 + _) (by omega) (by omega), w64_id (x * 64 + _ - 128) (by omega) (by omega), w64_id ((i : Int) + 1) (by omega) (by omega)]

theorem j3_eq (k : Nat) (s : ByteArray) (p m x : Int) : trestleref01_At.j3 (k + 1) s p m x = trestleref01_At.l0 k s p m x 1 := by simp only [trestleref01_At.j3]

set_option maxHeartbeats 1000000 in
theorem at_eq (k : Nat) (s : ByteArray) (p : Nat) (hs : s.size ≤ 140737488355328) (hp : p < s.size) :
    trestleref01_At.f (k + 12) s p = some ((p : Int), (((Utf8.decode s p).2 : Nat) : Int), (((Utf8.decode s p).1 : Nat) : Int)) := by
  obtain ⟨b0, e0⟩ : ∃ b, (s.get! p).toNat = b := ⟨_, rfl⟩
  obtain ⟨b1, e1⟩ : ∃ b, (s.get! (p + 1)).toNat = b := ⟨_, rfl⟩
  obtain ⟨b2, e2⟩ : ∃ b, (s.get! (p + 2)).toNat = b := ⟨_, rfl⟩
  obtain ⟨b3, e3⟩ : ∃ b, (s.get! (p + 3)).toNat = b := ⟨_, rfl⟩
  have r0 := (s.get! p).toNat_lt
  have r1 := (s.get! (p + 1)).toNat_lt
  have r2 := (s.get! (p + 2)).toNat_lt
  have r3 := (s.get! (p + 3)).toNat_lt
  rw [Lib.decode_at, e0, e1, e2, e3]
  rw [e0] at r0
  rw [e1] at r1
  rw [e2] at r2
  rw [e3] at r3
  have hb : bt s (p : Int) = (b0 : Int) := by
    have := bt_get s p 0 (by omega)
    simpa [e0] using this
  unfold trestleref01_At.f
  rw [if_pos (by omega), if_pos (by omega), hb, w64_id (b0 : Int) (by omega) (by omega)]
  obtain ⟨n, hn⟩ : ∃ n, s.size - p = n := ⟨_, rfl⟩
  rw [hn]
  have s1 := fun (j : Nat) (m x : Int) (h1 : ((1 : Nat) : Int) < m) (h2 : m ≤ 4) (h3 : 0 ≤ x ∧ x ≤ 1000000000) => l0_step j s p 1 m x hs hp h1 h2 h3
  have s2 := fun (j : Nat) (m x : Int) (h1 : ((2 : Nat) : Int) < m) (h2 : m ≤ 4) (h3 : 0 ≤ x ∧ x ≤ 1000000000) => l0_step j s p 2 m x hs hp h1 h2 h3
  have s3 := fun (j : Nat) (m x : Int) (h1 : ((3 : Nat) : Int) < m) (h2 : m ≤ 4) (h3 : 0 ≤ x ∧ x ≤ 1000000000) => l0_step j s p 3 m x hs hp h1 h2 h3
  rw [e1] at s1
  rw [e2] at s2
  rw [e3] at s3
  have hnn : (s.size : Int) - p = n := by omega
  rw [hnn] at s1 s2 s3
  clear hb e0 e1 e2 e3
  by_cases c1 : b0 < 128
  · rw [if_neg (by omega)]
    show trestleref01_At.j0 ((k + 11) + 1) s p b0 1 b0 false = _
    simp only [trestleref01_At.j0]
    rw [if_neg (by decide), if_neg (by omega)]
    show trestleref01_At.j1 ((k + 10) + 1) s p b0 1 b0 false = _
    simp only [trestleref01_At.j1]
    rw [if_neg (by decide), if_neg (by omega)]
    show trestleref01_At.j2 ((k + 9) + 1) s p b0 1 b0 false = _
    simp only [trestleref01_At.j2]
    rw [if_neg (by decide), if_neg (by omega)]
    refine (j3_eq (k + 8) s p 1 b0).trans ((l0_end (k + 6) s p 1 b0).trans ?_)
    unfold endV Lib.decodeN
    rw [if_pos c1, if_pos ⟨⟨by omega, by omega, by omega⟩, by unfold bytesV; rw [if_pos (by omega)]⟩]
    rfl
  · by_cases c2 : 192 ≤ b0
    · rw [if_pos (by omega)]
      by_cases c3 : b0 < 224
      · show trestleref01_At.j0 ((k + 11) + 1) s p b0 1 b0 _ = _
        simp only [trestleref01_At.j0]
        rw [if_pos (by rw [decide_eq_true_eq]; omega), w64_id _ (by omega) (by omega)]
        refine (j3_eq (k + 10) s p 2 _).trans ((s1 (k + 9) 2 _ (by omega) (by omega) (by omega)).trans ?_)
        by_cases c4 : 1 < n ∧ b1 / 64 = 2
        · rw [if_pos (by omega)]
          refine (l0_end (k + 7) s p 2 _).trans ?_
          unfold Lib.decodeN
          rw [if_neg c1, if_pos (by omega)]
          unfold endV goodV bytesV
          repeat' split
          all_goals first | (exfalso; omega) | rfl | (simp; omega)
        · rw [if_neg (by omega)]
          unfold Lib.decodeN
          rw [if_neg c1, if_neg (by omega), if_neg (by omega), if_neg (by omega)]
          rfl
      · show trestleref01_At.j0 ((k + 11) + 1) s p b0 1 b0 _ = _
        simp only [trestleref01_At.j0]
        rw [if_neg (by rw [decide_eq_true_eq]; omega), if_pos (by omega)]
        show trestleref01_At.j1 ((k + 10) + 1) s p b0 1 b0 _ = _
        simp only [trestleref01_At.j1]
        by_cases c5 : b0 < 240
        · rw [if_pos (by rw [decide_eq_true_eq]; omega), w64_id _ (by omega) (by omega)]
          refine (j3_eq (k + 9) s p 3 _).trans ((s1 (k + 8) 3 _ (by omega) (by omega) (by omega)).trans ?_)
          by_cases c4 : 3 ≤ n ∧ b1 / 64 = 2
          · rw [if_pos (by omega)]
            refine (s2 (k + 7) 3 _ ?hA ?hB ?hC).trans ?_
            case hA => omega
            case hB => omega
            case hC => omega
            by_cases c6 : b2 / 64 = 2
            · rw [if_pos (by omega)]
              refine (l0_end (k + 5) s p 3 _).trans ?_
              unfold Lib.decodeN
              rw [if_neg c1, if_neg (by omega), if_pos (by omega)]
              unfold endV goodV bytesV
              repeat' split
              all_goals first | (exfalso; omega) | rfl | (simp; omega)
            · rw [if_neg (by omega)]
              unfold Lib.decodeN
              rw [if_neg c1, if_neg (by omega), if_neg (by omega), if_neg (by omega)]
              rfl
          · rw [if_neg (by omega)]
            unfold Lib.decodeN
            rw [if_neg c1, if_neg (by omega), if_neg (by omega), if_neg (by omega)]
            rfl
        · rw [if_neg (by rw [decide_eq_true_eq]; omega), if_pos (by omega)]
          show trestleref01_At.j2 ((k + 9) + 1) s p b0 1 b0 _ = _
          simp only [trestleref01_At.j2]
          by_cases c7 : b0 < 248
          · rw [if_pos (by rw [decide_eq_true_eq]; omega), w64_id _ (by omega) (by omega)]
            refine (j3_eq (k + 8) s p 4 _).trans ((s1 (k + 7) 4 _ (by omega) (by omega) (by omega)).trans ?_)
            by_cases c4 : 4 ≤ n ∧ b1 / 64 = 2
            · rw [if_pos (by omega)]
              refine (s2 (k + 6) 4 _ ?hA ?hB ?hC).trans ?_
              case hA => omega
              case hB => omega
              case hC => omega
              by_cases c6 : b2 / 64 = 2
              · rw [if_pos (by omega)]
                refine (s3 (k + 5) 4 _ ?hA ?hB ?hC).trans ?_
                case hA => omega
                case hB => omega
                case hC => omega
                by_cases c8 : b3 / 64 = 2
                · rw [if_pos (by omega)]
                  refine (l0_end (k + 3) s p 4 _).trans ?_
                  unfold Lib.decodeN
                  rw [if_neg c1, if_neg (by omega), if_neg (by omega), if_pos (by omega)]
                  unfold endV goodV bytesV
                  repeat' split
                  all_goals first | (exfalso; omega) | rfl | (simp; omega)
                · rw [if_neg (by omega)]
                  unfold Lib.decodeN
                  rw [if_neg c1, if_neg (by omega), if_neg (by omega), if_neg (by omega)]
                  rfl
              · rw [if_neg (by omega)]
                unfold Lib.decodeN
                rw [if_neg c1, if_neg (by omega), if_neg (by omega), if_neg (by omega)]
                rfl
            · rw [if_neg (by omega)]
              unfold Lib.decodeN
              rw [if_neg c1, if_neg (by omega), if_neg (by omega), if_neg (by omega)]
              rfl
          · rw [if_neg (by rw [decide_eq_true_eq]; omega), if_pos (by omega)]
            unfold Lib.decodeN
            rw [if_neg c1, if_neg (by omega), if_neg (by omega), if_neg (by omega)]
            rfl
    · rw [if_neg (by omega)]
      show trestleref01_At.j0 ((k + 11) + 1) s p b0 1 b0 false = _
      simp only [trestleref01_At.j0]
      rw [if_neg (by decide), if_neg (by omega)]
      show trestleref01_At.j1 ((k + 10) + 1) s p b0 1 b0 false = _
      simp only [trestleref01_At.j1]
      rw [if_neg (by decide), if_neg (by omega)]
      show trestleref01_At.j2 ((k + 9) + 1) s p b0 1 b0 false = _
      simp only [trestleref01_At.j2]
      rw [if_neg (by decide), if_pos (by omega)]
      unfold Lib.decodeN
      rw [if_neg c1, if_neg (by omega), if_neg (by omega), if_neg (by omega)]
      rfl
end Go.Proofs.YtlmmhlabacghnaaDoor.RA
