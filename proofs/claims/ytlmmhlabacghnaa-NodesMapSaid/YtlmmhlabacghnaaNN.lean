/- nodes: New, At, Dump. -/
import Derived.Test.YtlmmhlabacghnaaNP
namespace Go.Proofs.Ytlmmhlabacghnaa.PH
open Go.RowKit Go.Proofs.YtlmmhlabacghnaaW.PrintWords Go.Proofs.YtlmmhlabacghnaaW.PrintLast Go.Proofs.YtlmmhlabacghnaaW.PrintMore
set_option linter.unusedVariables false
set_option linter.unusedSimpArgs false

/-- The cells of n nodes without keys. -/
def zcells (n : Nat) : Array Value := madeCells (nv z67).cells (n * 7)
theorem mk_row (w : World) (n : Nat) (hn : n ≤ 65536) : Kd.R k67 67 (w.alloc (.cells (zcells n) 67)) w.heap.size (fun k => k = w.heap.size) (.slice (some ⟨w.heap.size, 0, none⟩) n n) (List.replicate n z67) := by
  have hrep : Reps (Kd.M k67 w w.heap.size (fun _ => False)) 7 (List.replicate n z67) (madeCells (nv z67).cells (n * 7)).toList := Kd.reps_made (z := nv z67) rfl (by decide) (k67_mkM _ _ _ _) n
  refine ⟨fun k hk => ?_, (madeCells (nv z67).cells (n * 7)).toList, ?_, ?_⟩
  · have : w.heap.size = k := by simpa [Value.ownBlock] using hk
    exact this.symm
  · have h2 := World.ownsRow_lit (base := w.heap.size) (e := 67) (size := 7) w (madeCells (nv z67).cells (n * 7)) n (Nat.le_refl _) (by simp [maxLen]; omega) (by simp [size_madeCells])
    rw [List.length_replicate]
    exact h2
  · exact hrep.imp_ (fun p c hp => Kd.M_mono _ (fun k hk => hk.1.elim) (Kd.M_below (Kd.M_bound _ hp) (below_alloc (Below.refl _ _) _)))
theorem make_run (w : World) (n : Nat) (hn : n ≤ 65536) : Sem.run Try.prog (Instr.makeSlice 75 (.int .i64 (n : Int)) (.int .i64 (n : Int))) w = .ok (.slice (some ⟨w.heap.size, 0, none⟩) n n) (w.alloc (.cells (zcells n) 67)) := by
  obtain ⟨i0, hi, hz0⟩ : ∃ i, Try.prog.info? 67 = some i ∧ (i.zero, i.size, i.bytes) = (some (nv z67), 7, 72) := by
    have h : (Try.prog.info? 67).map (fun i => (i.zero, i.size, i.bytes)) = some (some (nv z67), 7, 72) := by kernel_rfl
    exact Option.map_eq_some_iff.1 h
  simp only [Prod.mk.injEq] at hz0
  have h := run_make (P := Try.prog) w 75 67 i0 (nv z67) (by kernel_rfl) hi hz0.1 .i64 .i64 (n : Int) (n : Int) (by omega) (Int.le_refl _) (by rw [hz0.2.2]; omega) (by omega)
  rw [hz0.2.1, Int.toNat_natCast] at h
  exact h
set_option maxHeartbeats 4000000 in
set_option maxRecDepth 100000 in
theorem new_call (w : World) (n : Nat) (hn : n ≤ 65536) (hb : Go.bits .and .i64 (n : Int) ((n : Int) - 1) = 0) :
    Calls Try.prog 58 #[.int .i64 n] w fun e w' => ∃ g a cap, e = .returned (.tuple #[.pointer (some ⟨g, 0, none⟩), .int .i64 0]) ∧ IsP w.heap.size g a cap (List.replicate n z67) n w' ∧ Below w.heap.size w w' ∧ w.heap.size ≤ g := by
  have h1 : decide ((n : Int) < 0) = false := decide_eq_false (by omega)
  have h2 : decide ((n : Int) > 65536) = false := decide_eq_false (by omega)
  have h3 : decide (65536 < (n : Int)) = false := decide_eq_false (by omega)
  have hnn : (n : Int) ≤ 65536 := by omega
  have hmk := make_run w n hn
  have HR := Lib.hid (mk_row w n hn)
  have HN := Lib.hid hn
  clear hn
  go_enter Try.func58, Try.ntmps58
  go_wp2_with fail
  obtain ⟨w2, hw2, hI2, hb2⟩ : ∃ w2, (w.alloc (.cells (zcells n) 67)).alloc (.cells #[.slice (some ⟨w.heap.size, 0, none⟩) n n, .int .i64 (n : Int)] 107) = w2 ∧ IsP w.heap.size (w.heap.size + 1) w.heap.size n (List.replicate n z67) n w2 ∧ Below w.heap.size w w2 := by
    refine ⟨_, rfl, ⟨?_, ?_, by omega, by rw [List.length_replicate]; exact HN.out⟩, ((Below.refl _ _).alloc (Nat.le_refl _) _).alloc (by simp) _⟩
    · have h := heap_alloc_new (w.alloc (.cells (zcells n) 67)) (.cells #[.slice (some ⟨w.heap.size, 0, none⟩) n n, .int .i64 (n : Int)] 107)
      rw [List.length_replicate]
      simpa using h
    · rw [List.length_replicate]
      exact Kd.R_below HR.out ((Below.refl _ _).alloc (Nat.le_refl _) _)
  rw [hw2]
  go_ret2
  exact ⟨_, _, _, rfl, hI2, hb2, by omega⟩
end Go.Proofs.Ytlmmhlabacghnaa.PH
