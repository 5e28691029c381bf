/- runes.Bad: where the first byte stands that begins nothing: its walk over runes.each. -/
import Derived.Test.YtlmmhlabacghnaaDoorList
namespace Go.Proofs.YtlmmhlabacghnaaDoor.PR
open Go.RowKit Go.Proofs.YtlmmhlabacghnaaDoorW.PrintWords Go.Proofs.YtlmmhlabacghnaaDoorW.PrintLast Go.Proofs.YtlmmhlabacghnaaDoorW.PrintMore Go.Proofs.YtlmmhlabacghnaaDoor.RuneMath
set_option linter.unusedVariables false
set_option linter.unusedSimpArgs false

/-- Is it a byte that begins nothing? -/
def inv (r : R3) : Bool := r.2.2 == 65533 && r.2.1 == 1
/-- The first such byte's place; -1: there is none. -/
def firstBad : List R3 → Int
  | [] => -1
  | r :: l => if inv r = true then r.1 else firstBad l
def badL (l : List R3) : Int := l.foldl (fun a r => if inv r = true then (r.1 : Int) else a) (-1)
theorem badL_snoc (l : List R3) (r : R3) : badL (l ++ [r]) = if inv r = true then (r.1 : Int) else badL l := by simp [badL]
def bcont (t : List R3) (r : R3) : Bool := decide (badL (t ++ [r]) < 0)
theorem badL_go (l : List R3) : ∀ told, badL told = -1 → badL (go bcont told l) = firstBad l := by
  induction l with
  | nil => intro told h; exact h
  | cons r l ih =>
    intro told h
    simp only [go, firstBad]
    have hs := badL_snoc told r
    by_cases hr : inv r = true
    · rw [if_pos hr] at hs ⊢
      rw [if_neg (show ¬ bcont told r = true by unfold bcont; rw [hs]; simp), hs]
    · rw [if_neg hr] at hs ⊢
      rw [if_pos (show bcont told r = true by unfold bcont; rw [hs, h]; decide)]
      exact ih _ (hs.trans h)
def runes_Bad.f (a0 : ByteArray) : Option Int := if a0.size ≤ 4611686018427387904 then some (firstBad (rs a0)) else none

set_option maxHeartbeats 1000000 in
set_option maxRecDepth 100000 in
theorem invalid_fn (r : R3) (w : World) : Calls Tryd.prog 51 #[.agg #[.int .i64 r.1, .int .i64 r.2.1, .int .i64 r.2.2]] w fun e w' => e = .returned (.bool (inv r)) ∧ Below w.heap.size w w' := by
  obtain ⟨b, hb⟩ : ∃ b, inv r = b := ⟨_, rfl⟩
  rw [hb]
  unfold inv at hb
  rcases Nat.decEq r.2.2 65533 with h1 | h1
  · have g1 : ((r.2.2 : Int) == 65533) = false := beq_eq_false_iff_ne.2 (by omega)
    rw [beq_eq_false_iff_ne.2 h1] at hb
    obtain rfl : false = b := hb
    clear h1
    go_enter Tryd.func51, Tryd.ntmps51
    go_wp2
    go_ret
    exact ⟨rfl, (Below.refl _ _).alloc (Nat.le_refl _) _⟩
  · have g1 : ((r.2.2 : Int) == 65533) = true := beq_iff_eq.2 (by omega)
    rw [beq_iff_eq.2 h1] at hb
    rcases Nat.decEq r.2.1 1 with h2 | h2
    · have g2 : ((r.2.1 : Int) == 1) = false := beq_eq_false_iff_ne.2 (by omega)
      rw [beq_eq_false_iff_ne.2 h2] at hb
      obtain rfl : false = b := hb
      clear h1 h2
      go_enter Tryd.func51, Tryd.ntmps51
      go_wp2
      go_ret
      exact ⟨rfl, (Below.refl _ _).alloc (Nat.le_refl _) _⟩
    · have g2 : ((r.2.1 : Int) == 1) = true := beq_iff_eq.2 (by omega)
      rw [beq_iff_eq.2 h2] at hb
      obtain rfl : true = b := hb
      clear h1 h2
      go_enter Tryd.func51, Tryd.ntmps51
      go_wp2
      go_ret
      exact ⟨rfl, (Below.refl _ _).alloc (Nat.le_refl _) _⟩

/-- What Bad's function value holds: the place found last. -/
def BadInv (cb : Nat) (told : List R3) (w : World) : Prop := w.heap[cb]? = some (.cells #[.int .i64 (badL told)] 3 (0, 0))

theorem inv_row {w : World} {b : Nat} {x y z : Value} {t : TypeId} (h : w.heap[b]? = some (.cells #[x, y, z] t (0, 0))) : w.cell? ⟨b, 0, none⟩ = some x := (row3 h).1

set_option maxHeartbeats 1000000 in
set_option maxRecDepth 100000 in
theorem bad_fn (r : R3) (told : List R3) (cb B : Nat) (w : World) (hcb : cb < B) (hB : B ≤ w.heap.size) (hin : BadInv cb told w) :
    Calls Tryd.prog 50 #[.agg #[.int .i64 r.1, .int .i64 r.2.1, .int .i64 r.2.2], .pointer (some ⟨cb, 0, none⟩)] w fun e w' => e = .returned (.bool (bcont told r)) ∧ BadInv cb (told ++ [r]) w' ∧ Frm (fun k => k = cb) B w w' := by
  have hs := badL_snoc told r
  unfold BadInv at hin
  obtain ⟨w1, hw1, g1, g2, g3⟩ : ∃ w1, w.alloc (.cells #[.int .i64 r.1, .int .i64 r.2.1, .int .i64 r.2.2] 28) = w1 ∧ w1.heap[w.heap.size]? = some (.cells #[.int .i64 r.1, .int .i64 r.2.1, .int .i64 r.2.2] 28 (0, 0)) ∧ Below w.heap.size w w1 ∧ w1.heap.size = w.heap.size + 1 :=
    ⟨_, rfl, heap_alloc_new _ _, (Below.refl _ _).alloc (Nat.le_refl _) _, by simp⟩
  have P := Lib.hid (And.intro hin (And.intro hw1 (And.intro g1 (And.intro g2 (And.intro g3 (And.intro hcb hB))))))
  clear hin hw1 g1 g2 g3 hcb hB
  cases hr : inv r
  · rw [hr, if_neg (by decide)] at hs
    have HS := Lib.hid hs
    have HR := Lib.hid hr
    clear hs hr
    go_enter Tryd.func50, Tryd.ntmps50
    go_wp2_with (go_at_call 51; refine (invalid_fn _ _).mono ?_; rintro e w2 ⟨rfl, hb⟩; rw [HR.out]; obtain ⟨hin, hw1, g1, g2, g3, hcb, hB⟩ := P.out; rw [hw1] at hb; have c2 := cell_of_one (((hb.block cb (by omega)).trans (g2.block cb (by omega))).trans hin); have HB2 := Lib.hid hb; clear hin hw1 g1 g2 g3 hcb hB hb)
    go_ret
    obtain ⟨hin, hw1, g1, g2, g3, hcb, hB⟩ := P.out
    have hb := HB2.out
    refine ⟨by unfold bcont; rw [HS.out]; rfl, ?_, ?_⟩
    · unfold BadInv
      rw [HS.out, hb.block cb (by omega), g2.block cb (by omega)]
      exact hin
    · exact (Frm.of_below (g2.mono hB)).trans (Frm.of_below (hb.mono (by omega)))
  · rw [hr, if_pos rfl] at hs
    have HS := Lib.hid hs
    have HR := Lib.hid hr
    clear hs hr
    go_enter Tryd.func50, Tryd.ntmps50
    go_wp2_with (go_at_call 51; refine (invalid_fn _ _).mono ?_; rintro e w2 ⟨rfl, hb⟩; rw [HR.out]; obtain ⟨hin, hw1, g1, g2, g3, hcb, hB⟩ := P.out; rw [hw1] at hb; have c2 := cell_of_one (((hb.block cb (by omega)).trans (g2.block cb (by omega))).trans hin); have f2 := free_of_one (((hb.block cb (by omega)).trans (g2.block cb (by omega))).trans hin); have c3 := inv_row ((hb.block w.heap.size (by omega)).trans g1); have HB2 := Lib.hid hb; clear hin hw1 g1 g2 g3 hcb hB hb)
    go_ret
    obtain ⟨hin, hw1, g1, g2, g3, hcb, hB⟩ := P.out
    have hb := HB2.out
    refine ⟨by unfold bcont; rw [HS.out]; rfl, ?_, ?_⟩
    · unfold BadInv
      rw [HS.out]
      exact one_setCell (((hb.block cb (by omega)).trans (g2.block cb (by omega))).trans hin)
    · refine ((Frm.of_below (g2.mono hB)).trans (Frm.of_below (hb.mono (by omega)))).trans ⟨rfl, rfl, rfl, by simp [World.setCell], fun k hk hkc => Below.heap_setCell _ _ _ _ hkc⟩

set_option maxHeartbeats 1000000 in
set_option maxRecDepth 100000 in
theorem runes_Bad.calls (a0 : ByteArray) (r : Int) (w : World) (h : runes_Bad.f a0 = some r) :
    Calls Tryd.prog 22 #[.string a0] w fun e w' => e = .returned (.int .i64 r) ∧ Below w.heap.size w w' := by
  unfold runes_Bad.f at h
  split at h
  · rename_i hs
    obtain rfl := Option.some.inj h
    clear h
    have hgo := badL_go (rs a0) [] rfl
    have HG := Lib.hid hgo
    have HS := Lib.hid hs
    clear hgo hs
    go_enter Tryd.func22, Tryd.ntmps22
    go_wp2_with fail
    refine (each_any a0 HS.out 50 #[.pointer (some ⟨w.heap.size, 0, none⟩)] (hcf _ Tryd.func50 (by kernel_rfl) (by kernel_rfl)) (w.alloc (.cells #[.int .i64 (-1)] 3)) (BadInv w.heap.size) bcont (fun k => k = w.heap.size) ?_ ?_ ?_ ?_).mono ?_
    · intro k hk
      have hk' : k = w.heap.size := hk
      simp
      omega
    · intro told w1 w2 hv hsz hst
      have hlt : w.heap.size < w1.heap.size := (Array.getElem?_eq_some_iff.1 hv).1
      exact (hst _ hlt (by simp) (by simp; omega)).trans hv
    · exact heap_alloc_new _ _
    · rintro told x w1 _ hin hsz
      have hsz' : w.heap.size + 3 ≤ w1.heap.size := by simpa using hsz
      refine (bad_fn x told w.heap.size (w.heap.size + 3) w1 (by omega) hsz' hin).mono ?_
      rintro e w2 ⟨rfl, hin2, hfr⟩
      exact ⟨rfl, hin2, by simpa using hfr⟩
    · rintro e w1 ⟨rfl, hin, hfr⟩
      unfold BadInv at hin
      rw [HG.out] at hin
      have c0 := cell_of_one hin
      have hbel : Below w.heap.size w w1 := ((Below.refl _ w).alloc (Nat.le_refl _) _).trans (hfr.below (by simp) (fun k hk e => by omega))
      have Q := Lib.hid hbel
      clear hin hfr hbel
      go_wp2
      go_ret
      exact ⟨rfl, Q.out⟩
  · cases h
end Go.Proofs.YtlmmhlabacghnaaDoor.PR
