/- runes.Place: the line and the column of a byte; runes.Count: how many runes: their walks. -/
import Derived.Test.YtlmmhlabacghnaaDoorPRx0
import Derived.Test.YtlmmhlabacghnaaDoorRM
import Derived.WalkLawsBesides
import Derived.Lib.Hide
namespace Go.Proofs.YtlmmhlabacghnaaDoor.PR
open Go.RowKit Go.Proofs.YtlmmhlabacghnaaDoorW.PrintWords Go.Proofs.YtlmmhlabacghnaaDoorW.PrintLast Go.Proofs.YtlmmhlabacghnaaDoorW.PrintMore Go.Proofs.YtlmmhlabacghnaaDoor.RuneMath
set_option linter.unusedVariables false
set_option linter.unusedSimpArgs false

/-- From a line and a column on, up to a byte. -/
def placeL (at_ : Int) : List R3 → Int → Int → Int × Int
  | [], l, c => (l, c)
  | r :: rest, l, c => if at_ ≤ r.1 then (l, c) else if r.2.2 = 10 then placeL at_ rest (l + 1) 1 else placeL at_ rest l (c + 1)

def runes_Place.f (a0 : ByteArray) (a1 : Int) : Option (Int × Int × Int) :=
  if a0.size ≤ 4611686018427387904 then
    (if a1 < 0 ∨ (a0.size : Int) < a1 then some (0, 0, 1) else some ((placeL a1 (rs a0) 1 1).1, (placeL a1 (rs a0) 1 1).2, 0))
  else none

theorem bt_' (p : Prop) [Decidable p] (h : p) : decide p = true := decide_eq_true h
theorem bf_' (p : Prop) [Decidable p] (h : ¬ p) : decide p = false := decide_eq_false h

set_option maxHeartbeats 2000000 in
set_option maxRecDepth 100000 in
theorem runes_Place.calls (a0 : ByteArray) (a1 : Int) (r1 r2 r3 : Int) (w : World) (h : runes_Place.f a0 a1 = some (r1, r2, r3)) :
    Calls Tryd.prog 24 #[.string a0, .int .i64 a1] w fun e w' => e = .returned (.tuple #[.int .i64 r1, .int .i64 r2, .int .i64 r3]) ∧ Below w.heap.size w w' := by
  unfold runes_Place.f at h
  split at h
  · rename_i hs
    by_cases h0 : a1 < 0
    · rw [if_pos (.inl h0)] at h
      simp only [Option.some.injEq, Prod.mk.injEq] at h
      obtain ⟨rfl, rfl, rfl⟩ := h
      have b0 := bt_' (a1 < 0) h0
      go_enter Tryd.func24, Tryd.ntmps24
      go_wp2
      go_ret3
      exact ⟨rfl, Below.refl _ _⟩
    have b0 := bf_' (a1 < 0) h0
    by_cases h1 : (a0.size : Int) < a1
    · rw [if_pos (.inr h1)] at h
      simp only [Option.some.injEq, Prod.mk.injEq] at h
      obtain ⟨rfl, rfl, rfl⟩ := h
      have b1 := bt_' ((a0.size : Int) < a1) h1
      go_enter Tryd.func24, Tryd.ntmps24
      go_wp2
      go_ret3
      exact ⟨rfl, Below.refl _ _⟩
    have b1 := bf_' ((a0.size : Int) < a1) h1
    rw [if_neg (by omega)] at h
    simp only [Option.some.injEq, Prod.mk.injEq] at h
    have HR := Lib.hid h
    have HS := Lib.hid hs
    clear h
    go_enter Tryd.func24, Tryd.ntmps24
    go_wp2
    go_loopw [7, 8, 9, 10] (fun v7 v8 v9 v10 wr => ∃ (pos : Nat) (l c : Int), wr = w.iter a0 pos ∧ v7 = .int .i64 l ∧ v8 = .int .i64 c ∧ Hid (placeL a1 (from_ a0 pos) l c = placeL a1 (rs a0) 1 1) ∧ pos ≤ a0.size ∧ 1 ≤ l ∧ l ≤ pos + 1 ∧ 1 ≤ c ∧ c ≤ pos + 1) (fun v7 v8 v9 v10 wr => a0.size - wr.iterPos w.heap.size)
    case atStart => exact ⟨0, 1, 1, rfl, rfl, rfl, rfl, Nat.zero_le _, by omega, by omega, by omega, by omega⟩
    case round =>
      obtain ⟨pos, l, c, rfl, rfl, rfl, hq, hle, hl0, hl1, hc0, hc1⟩ := hrel
      by_cases hp : pos < a0.size
      · have hnx : ∀ ty, (Instr.next (.pointer (some ⟨w.heap.size, 0, none⟩)) true ty).run Tryd.prog (w.iter a0 pos) = _ := fun ty => run_next_any w a0 pos ty hp
        have hwp := width_pos a0 pos hp
        have hwf := width_fits a0 pos hp
        have hfl := from_lt a0 pos hp
        by_cases hg : a1 ≤ pos
        · have hd : placeL a1 (rs a0) 1 1 = (l, c) := by
            rw [← hq.out, hfl]
            simp only [placeL]
            rw [if_pos hg]
          have HD := Lib.hid hd
          have b2 := bt_' (a1 ≤ (pos : Int)) hg
          clear hd hfl hq
          go_wp2
          go_ret3
          obtain ⟨q1, q2, q3⟩ := HR.out
          rw [HD.out] at q1 q2
          exact ⟨by rw [← q1, ← q2, ← q3]; rfl, (Below.refl _ _).alloc (Nat.le_refl _) _⟩
        · have b2 := bf_' (a1 ≤ (pos : Int)) hg
          by_cases hn : (Utf8.decode a0 pos).1 = 10
          · have b3 : (((Utf8.decode a0 pos).1 : Int) == 10) = true := beq_iff_eq.2 (by omega)
            have hd : placeL a1 (from_ a0 (pos + (Utf8.decode a0 pos).2)) (l + 1) 1 = placeL a1 (rs a0) 1 1 := by
              rw [← hq.out, hfl]
              conv => rhs; unfold placeL
              rw [if_neg hg, if_pos hn]
            have HD := Lib.hid hd
            clear hd hfl hq hn
            go_wp2
            go_roundw
            case rel => exact ⟨pos + (Utf8.decode a0 pos).2, l + 1, 1, rfl, rfl, rfl, HD, hwf, by omega, by omega, by omega, by omega⟩
            case measure => simp; omega
          · have b3 : (((Utf8.decode a0 pos).1 : Int) == 10) = false := beq_eq_false_iff_ne.2 (by omega)
            have hd : placeL a1 (from_ a0 (pos + (Utf8.decode a0 pos).2)) l (c + 1) = placeL a1 (rs a0) 1 1 := by
              rw [← hq.out, hfl]
              conv => rhs; unfold placeL
              rw [if_neg hg, if_neg hn]
            have HD := Lib.hid hd
            clear hd hfl hq hn
            go_wp2
            go_roundw
            case rel => exact ⟨pos + (Utf8.decode a0 pos).2, l, c + 1, rfl, rfl, rfl, HD, hwf, by omega, by omega, by omega, by omega⟩
            case measure => simp; omega
      · have hnx : ∀ ty, (Instr.next (.pointer (some ⟨w.heap.size, 0, none⟩)) true ty).run Tryd.prog (w.iter a0 pos) = _ := fun ty => run_next_end w a0 pos ty hp
        have hge := from_ge a0 pos hp
        have hd : placeL a1 (rs a0) 1 1 = (l, c) := by
          rw [← hq.out, hge]
          rfl
        have HD := Lib.hid hd
        clear hd hge hq
        go_wp2
        go_ret3
        obtain ⟨q1, q2, q3⟩ := HR.out
        rw [HD.out] at q1 q2
        exact ⟨by rw [← q1, ← q2, ← q3]; rfl, (Below.refl _ _).alloc (Nat.le_refl _) _⟩
  · cases h

def runes_Count.f (a0 : ByteArray) : Option Int := if a0.size ≤ 4611686018427387904 then some ((rs a0).length : Int) else none

set_option maxHeartbeats 2000000 in
set_option maxRecDepth 100000 in
theorem rune_count (a0 : ByteArray) (hs : a0.size ≤ 4611686018427387904) (w : World) :
    Calls Tryd.prog 48 #[.string a0] w fun e w' => e = .returned (.int .i64 ((rs a0).length : Int)) ∧ Below w.heap.size w w' := by
  have HS := Lib.hid hs
  go_enter Tryd.func48, Tryd.ntmps48
  go_wp2
  go_loopw [2] (fun v2 wr => ∃ (pos n : Nat), wr = w.iter a0 pos ∧ v2 = .int .i64 n ∧ Hid (n + (from_ a0 pos).length = (rs a0).length) ∧ pos ≤ a0.size ∧ n ≤ pos) (fun v2 wr => a0.size - wr.iterPos w.heap.size)
  case atStart => exact ⟨0, 0, rfl, rfl, Nat.zero_add _, Nat.zero_le _, Nat.le_refl _⟩
  case round =>
    obtain ⟨pos, n, rfl, rfl, hq, hle, hn⟩ := hrel
    by_cases hp : pos < a0.size
    · have hnx : ∀ ty, (Instr.next (.pointer (some ⟨w.heap.size, 0, none⟩)) true ty).run Tryd.prog (w.iter a0 pos) = _ := fun ty => run_next_any w a0 pos ty hp
      have hwp := width_pos a0 pos hp
      have hwf := width_fits a0 pos hp
      have hd : (n + 1) + (from_ a0 (pos + (Utf8.decode a0 pos).2)).length = (rs a0).length := by
        rw [← hq.out, from_lt a0 pos hp]
        simp
        omega
      have HD := Lib.hid hd
      clear hd hq
      go_wp2
      go_roundw
      case rel => exact ⟨pos + (Utf8.decode a0 pos).2, n + 1, rfl, by go_num, HD, hwf, by omega⟩
      case measure => simp; omega
    · have hnx : ∀ ty, (Instr.next (.pointer (some ⟨w.heap.size, 0, none⟩)) true ty).run Tryd.prog (w.iter a0 pos) = _ := fun ty => run_next_end w a0 pos ty hp
      have hd : n = (rs a0).length := by
        rw [← hq.out, from_ge a0 pos hp]
        rfl
      have HD := Lib.hid hd
      clear hd hq
      go_wp2
      go_ret
      rw [← HD.out]
      exact ⟨rfl, (Below.refl _ _).alloc (Nat.le_refl _) _⟩

set_option maxHeartbeats 400000 in
set_option maxRecDepth 100000 in
theorem runes_Count.calls (a0 : ByteArray) (r : Int) (w : World) (h : runes_Count.f a0 = some r) :
    Calls Tryd.prog 21 #[.string a0] w fun e w' => e = .returned (.int .i64 r) ∧ Below w.heap.size w w' := by
  unfold runes_Count.f at h
  split at h
  · rename_i hs
    obtain rfl := Option.some.inj h
    clear h
    have HS := Lib.hid hs
    clear hs
    go_enter Tryd.func21, Tryd.ntmps21
    go_wp2_with (go_at_call 48; refine (rune_count _ HS.out _).mono ?_; rintro e w1 ⟨rfl, hb⟩)
    go_ret
    exact ⟨rfl, hb⟩
  · cases h
end Go.Proofs.YtlmmhlabacghnaaDoor.PR
