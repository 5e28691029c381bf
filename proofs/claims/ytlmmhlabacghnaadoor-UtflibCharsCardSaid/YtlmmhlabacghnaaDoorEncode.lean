/- runes.Encode: the bytes of a code point, or ErrRune: its walk. -/
import Derived.Test.YtlmmhlabacghnaaDoorPRx0
import Derived.Laws.Runes
import Derived.WalkLawsBesides
import Derived.Lib.Hide
namespace Go.Proofs.YtlmmhlabacghnaaDoor.PR
open Go.RowKit Go.Proofs.YtlmmhlabacghnaaDoorW.PrintWords Go.Proofs.YtlmmhlabacghnaaDoorW.PrintLast Go.Proofs.YtlmmhlabacghnaaDoorW.PrintMore
set_option linter.unusedVariables false
set_option linter.unusedSimpArgs false

def runes_Encode.f (a0 : Int) : Option (ByteArray × Int) := some (if Utf8.valid a0 = true then (Utf8.encode a0, 0) else ((⟨#[]⟩ : ByteArray), 3))

theorem bt_ (p : Prop) [Decidable p] (h : p) : decide p = true := decide_eq_true h
theorem bf_ (p : Prop) [Decidable p] (h : ¬ p) : decide p = false := decide_eq_false h
theorem valid_iff (n : Int) : Utf8.valid n = true ↔ (0 ≤ n ∧ n < 55296) ∨ (57344 ≤ n ∧ n ≤ 1114111) := by
  unfold Utf8.valid
  simp only [Bool.or_eq_true, Bool.and_eq_true, decide_eq_true_eq]

set_option maxHeartbeats 1000000 in
set_option maxRecDepth 100000 in
theorem valid_rune (n : Int) (w : World) (h0 : 0 ≤ n) (h1 : n ≤ 1114111) : Calls Tryd.prog 44 #[.int .i32 n] w fun e w' => e = .returned (.bool (Utf8.valid n)) ∧ w' = w := by
  have hv := valid_iff n
  have a0 := bt_ (0 ≤ n) h0
  rcases (show n < 55296 ∨ (55296 ≤ n ∧ n ≤ 57343) ∨ 57343 < n from by omega) with h | h | h
  · have a1 := bt_ (n < 55296) h
    have e : Utf8.valid n = true := hv.2 (.inl ⟨h0, h⟩)
    rw [e]
    clear hv e
    go_enter Tryd.func44, Tryd.ntmps44
    go_wp2
    go_ret
    exact ⟨rfl, rfl⟩
  · have a1 := bf_ (n < 55296) (by omega)
    have a2 := bf_ (57343 < n) (by omega)
    have e : Utf8.valid n = false := by
      rw [← Bool.not_eq_true]
      intro h'
      have := hv.1 h'
      omega
    rw [e]
    clear hv e
    go_enter Tryd.func44, Tryd.ntmps44
    go_wp2
    go_ret
    exact ⟨rfl, rfl⟩
  · have a1 := bf_ (n < 55296) (by omega)
    have a2 := bt_ (57343 < n) (by omega)
    have a3 := bt_ (n ≤ 1114111) h1
    have e : Utf8.valid n = true := hv.2 (.inr ⟨by omega, h1⟩)
    rw [e]
    clear hv e
    go_enter Tryd.func44, Tryd.ntmps44
    go_wp2
    go_ret
    exact ⟨rfl, rfl⟩

theorem i32_id (n : Int) (h0 : 0 ≤ n) (h1 : n ≤ 1114111) : IntKind.i32.wrap n = n := by rw [IntKind.wrap_i32]; omega
theorem w32_id (n : Int) (h0 : 0 ≤ n) (h1 : n ≤ 1114111) : wrap32 n = n := by unfold wrap32; omega

set_option maxHeartbeats 1000000 in
set_option maxRecDepth 100000 in
theorem runes_Encode.calls (a0 : Int) (r1 : ByteArray) (r2 : Int) (w : World) (h : runes_Encode.f a0 = some (r1, r2)) :
    Calls Tryd.prog 14 #[.int .i64 a0] w fun e w' => e = .returned (.tuple #[.string r1, .int .i64 r2]) ∧ Below w.heap.size w w' := by
  have h := Option.some.inj h
  have hv := valid_iff a0
  by_cases h0 : a0 < 0
  · have b0 := bt_ (a0 < 0) h0
    rw [if_neg (by intro h'; have := hv.1 h'; omega)] at h
    obtain ⟨rfl, rfl⟩ := Prod.mk.inj h
    clear hv h
    go_enter Tryd.func14, Tryd.ntmps14
    go_wp2
    go_ret2
    exact ⟨rfl, Below.refl _ _⟩
  by_cases h1 : 1114111 < a0
  · have b0 := bf_ (a0 < 0) h0
    have b1 := bt_ (1114111 < a0) h1
    rw [if_neg (by intro h'; have := hv.1 h'; omega)] at h
    obtain ⟨rfl, rfl⟩ := Prod.mk.inj h
    clear hv h
    go_enter Tryd.func14, Tryd.ntmps14
    go_wp2
    go_ret2
    exact ⟨rfl, Below.refl _ _⟩
  · have b0 := bf_ (a0 < 0) h0
    have b1 := bf_ (1114111 < a0) h1
    have e1 := i32_id a0 (by omega) (by omega)
    have e2 := w32_id a0 (by omega) (by omega)
    have hc := valid_rune a0 w (by omega) (by omega)
    cases hb : Utf8.valid a0
    · rw [hb, if_neg (by decide)] at h
      obtain ⟨rfl, rfl⟩ := Prod.mk.inj h
      rw [hb] at hc
      have HC := Lib.hid hc
      clear hv h hb hc
      go_enter Tryd.func14, Tryd.ntmps14
      go_wp2_with (go_at_call 44; refine HC.out.mono ?_; rintro e w' ⟨rfl, rfl⟩)
      go_ret2
      exact ⟨rfl, Below.refl _ _⟩
    · rw [hb, if_pos rfl] at h
      obtain ⟨rfl, rfl⟩ := Prod.mk.inj h
      rw [hb] at hc
      have HC := Lib.hid hc
      clear hv h hb hc
      go_enter Tryd.func14, Tryd.ntmps14
      go_wp2_with (go_at_call 44; refine HC.out.mono ?_; rintro e w' ⟨rfl, rfl⟩)
      go_ret2
      exact ⟨rfl, Below.refl _ _⟩
end Go.Proofs.YtlmmhlabacghnaaDoor.PR
