/- hash.Of, byte by byte: its walk. -/
import Derived.Test.YtlmmhlabacghnaaPHx0
import Derived.Lib.ConvBytes
import Derived.WalkLawsBesides
import Derived.Lib.Hide
namespace Go.Proofs.Ytlmmhlabacghnaa.PH
open Go.RowKit Go.Proofs.YtlmmhlabacghnaaW.PrintWords
set_option linter.unusedVariables false
set_option linter.unusedSimpArgs false

/-- One byte more. -/
def ofStep (h : Int) (b : Int) : Int := IntKind.u32.wrap (Go.bits .xor .u32 h b * 16777619)
def ofTo (s : ByteArray) : Nat → Int
  | 0 => 2166136261
  | k + 1 => ofStep (ofTo s k) (bt s k)
def hash_Of.f (a0 : ByteArray) : Option Int := if a0.size ≤ 9223372036854775807 then some (ofTo a0 a0.size) else none

theorem conv_of (w : World) (s : ByteArray) : ∃ (c : Nat) (W : World), (convert 9 79 (.string s)).run Try.prog w = .ok (.slice (some ⟨w.heap.size, 0, none⟩) s.size c) W ∧
    (∀ j, j < s.size → W.cell? ⟨w.heap.size, j, none⟩ = some (.int .u8 (bt s j))) ∧ Below w.heap.size w W := by
  refine ⟨_, _, Lib.run_convert_string_bytes w 9 79 5 s Try.underlying9 Try.underlying79 Try.underlying5, fun j hj => ?_, ?_⟩
  · rw [Lib.bytesWorld_cell w 5 s j hj]
    have : bt s j = ((s.data.toList.getD j 0).toNat : Int) := by
      unfold bt
      rw [dif_pos (by omega)]
      simp [List.getD, hj]
      rfl
    rw [this]
  · exact ⟨rfl, rfl, rfl, by rw [Lib.bytesWorld_size]; omega, fun i hi => Lib.bytesWorld_at_old w 5 s i hi⟩

theorem conv_u8_u32 (x : Int) (h : 0 ≤ x ∧ x ≤ 255) : IntKind.u32.wrap x = x := by rw [IntKind.wrap_u32]; omega

theorem ofTo_range (s : ByteArray) : ∀ k, 0 ≤ ofTo s k ∧ ofTo s k ≤ 4294967295
  | 0 => ⟨by unfold ofTo; omega, by unfold ofTo; omega⟩
  | k + 1 => by unfold ofTo ofStep; rw [IntKind.wrap_u32]; omega

set_option maxHeartbeats 400000 in
set_option maxRecDepth 100000 in
theorem hash_Of.calls (a0 : ByteArray) (r : Int) (w : World) (h : hash_Of.f a0 = some r) :
    Calls Try.prog 24 #[.string a0] w fun e w' => e = .returned (.int .i64 r) ∧ Below w.heap.size w w' := by
  have hs : a0.size ≤ 9223372036854775807 := by
    unfold hash_Of.f at h
    split at h
    · assumption
    · exact absurd h (by simp)
  unfold hash_Of.f at h
  rw [if_pos hs] at h
  obtain rfl := Option.some.inj h
  clear h
  obtain ⟨c, W, hconv, hcell, hb⟩ := conv_of w a0
  have HC := Lib.hid hcell
  have HB := Lib.hid hb
  have HS := Lib.hid hs
  clear hcell hb
  go_enter Try.func24, Try.ntmps24
  go_wp2
  clear hconv
  go_loop [3, 9] (fun v3 v9 => ∃ k : Nat, k ≤ a0.size ∧ v9 = .int .i64 k ∧ v3 = .int .u32 (ofTo a0 k)) (fun _ v9 => a0.size - (intOf v9).toNat)
  case atStart => exact ⟨0, Nat.zero_le _, rfl, rfl⟩
  case round =>
    obtain ⟨k, hk, rfl, rfl⟩ := hrel
    by_cases hlt : k < a0.size
    · have hc := HC.out k hlt
      have hbt := bt_range a0 k
      have hor := ofTo_range a0 k
      have hw1 := conv_u8_u32 _ hbt
      go_wp2
      go_round
      case rel => exact ⟨k + 1, by omega, by go_num, rfl⟩
      case measure => simp [intOf]; omega
    · have hor := ofTo_range a0 k
      go_wp2
      go_ret
      have hk2 : k = a0.size := by omega
      subst hk2
      exact ⟨rfl, HB.out⟩
end Go.Proofs.Ytlmmhlabacghnaa.PH
