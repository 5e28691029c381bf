/- nodes: Dump. -/
import Derived.Test.YtlmmhlabacghnaaNA
import Derived.Lib.BufferMore
namespace Go.Proofs.Ytlmmhlabacghnaa.PH
open Go.RowKit Go.Proofs.YtlmmhlabacghnaaW.PrintWords Go.Proofs.YtlmmhlabacghnaaW.PrintLast Go.Proofs.YtlmmhlabacghnaaW.PrintMore
set_option linter.unusedVariables false
set_option linter.unusedSimpArgs false

theorem infoN : (Try.prog.info? 67).map (fun i => (i.zero, i.size, i.bytes)) = some (some (nv z67), 7, 72) := by kernel_rfl
set_option maxHeartbeats 4000000 in
set_option maxRecDepth 100000 in
theorem clone_call {B g a cap : Nat} {l : List S67} {f : Int} {w : World} (h : IsP B g a cap l f w) :
    Calls Try.prog 81 #[.slice (some ⟨a, 0, none⟩) l.length cap] w fun e w' => ∃ v, e = .returned v ∧ Kd.R k67 67 w' w.heap.size (fun k => w.heap.size ≤ k) v l ∧ Below w.heap.size w w' := by
  have H := Lib.hid h
  clear h
  go_enter Try.func81, Try.ntmps81
  have hu75 := Try.underlying75
  have hnil : ∀ W, (binOp .eql 75 (.slice (some ⟨a, 0, none⟩) l.length cap) (.slice none 0 0)).run Try.prog W = .ok (.bool false) W := fun W => Lib.run_eql_slice_some_nil W _ _ _ hu75
  have u75 : ∀ w, Sem.run Try.prog (underlying 75) w = .ok (TypeDesc.slice 67) w := run_underlying hu75
  go_wp2_with (first | ((with_reducible refine gate_builtin (b := .append) (xs := #[.tmp 5, .tmp 6]) rfl ?_); at_builtin; refine Kd.R_append_rows k67 (Rr := k67.K (w.alloc (.cells #[] 67))) (w0 := w) (W := w.alloc (.cells #[] 67)) w.heap.size rfl (.tmp 5) (.tmp 6) 75 67 (nv z67) 72 rfl hu75 infoN rfl (by decide) (by decide) _ [] l (some ⟨a, 0, none⟩) l.length cap (fun k => w.heap.size ≤ k) (fun _ => False) rfl rfl ?rO ?rR (fun _ _ h => h) (fun _ hk => hk.elim) ?rF ?rB ?rS ?rL ?_))
  case rO =>
    refine ⟨fun k hk => ?_, [], World.ownsRow_made w #[] 0 (Nat.le_refl _) (Nat.zero_le _) rfl, Reps.none _ _⟩
    have : w.heap.size = k := by
      have e : some w.heap.size = some k := hk
      exact Option.some.inj e
    omega
  case rR => exact Kd.C_below (Kd.R_reads' H.out.row).2.2 (below_alloc (Below.refl _ _) _)
  case rF => intro k hk; rw [World.size_alloc] at hk; omega
  case rB => exact below_alloc (Below.refl _ _) _
  case rS => rw [World.size_alloc]; omega
  case rL => have := H.out.len; simp; omega
  intro v1 w1 hR hb hg hv
  have Q := Lib.hid (And.intro hR hb)
  clear hR hb hg hv
  go_wp2_with fail
  go_ret
  exact ⟨_, rfl, Q.out⟩
set_option maxHeartbeats 4000000 in
set_option maxRecDepth 100000 in
theorem dump_call {B g a cap : Nat} {l : List S67} {f : Int} {w : World} (h : IsP B g a cap l f w) :
    Calls Try.prog 52 #[.pointer (some ⟨g, 0, none⟩)] w fun e w' => ∃ v, e = .returned v ∧ Kd.R k67 67 w' w.heap.size (fun k => w.heap.size ≤ k) v l ∧ Below w.heap.size w w' := by
  obtain ⟨x0, x1, y0, y1⟩ := two_of h.blk
  have H := Lib.hid h
  clear h
  go_enter Try.func52, Try.ntmps52
  go_wp2_with fail
  refine (clone_call H.out).mono ?_
  rintro e w1 ⟨v, rfl, hR, hb⟩
  have Q := Lib.hid (And.intro hR hb)
  clear hR hb
  go_wp2_with fail
  go_ret
  exact ⟨_, rfl, Q.out⟩
end Go.Proofs.Ytlmmhlabacghnaa.PH
