import Derived.Test.YtlmmhlabacghnaaM11
import Derived.Deep.CutBlock
import Derived.Deep.RegionHeld3
import Derived.BigRegion
import Derived.StillTailTactics
/- nodes: the reference's Put, every way. -/
namespace Go.Proofs.Ytlmmhlabacghnaa.PH
open Go.RowKit Go.Proofs.YtlmmhlabacghnaaW.PrintWords Go.Proofs.YtlmmhlabacghnaaW.PrintLast Go.Proofs.YtlmmhlabacghnaaW.PrintMore
open Go.Proofs.Ytlmmhlabacghnaa.HM
set_option linter.unusedVariables false
set_option linter.unusedSimpArgs false

/-- The reference's Put goes the way of the program's. -/
theorem rput_call {B q bk bv bc ck cv cc : Nat} {l : List Nd} {f : Nat} {C : Nat → List Nat} {w : World} (h : IsR B q bk bv bc ck cv cc l f C w) (hB : B ≤ w.heap.size) (hI : InvC l f C) (k v : Ky) {at_ r e : Int} (hF : Found l k at_ r) {l' : List Nd} {f' : Nat} {C' : Nat → List Nat} (hs : StepC l f C k v at_ l' f' C' e) :
    Calls Try.prog 55 #[.pointer (some ⟨q, 0, none⟩), kv k, kv v] w fun x w' => x = .returned (.tuple #[.int .i64 (putR k v r), .int .i64 e]) ∧ IsR B q bk bv bc ck cv cc l' f' C' w' ∧ Below B w w' := by
  have hfn := hF.fn
  cases hs with
  | form hf =>
    have hr : putR k v r = 0 := if_neg (fun e => by
      rcases hf with h1 | h1
      · rw [e.1] at h1; cases h1
      · rw [e.2.1] at h1; cases h1)
    rw [hr]
    exact (rput_form h hB k v hf).mono fun x w' ⟨h1, h2⟩ => ⟨h1, h.below h2, h2.mono hB⟩
  | key hk hv h0 =>
    have hr : putR k v r = 0 := if_neg (fun e => e.2.2 h0)
    rw [hr]
    exact (rput_key h hB k v hk hv h0).mono fun x w' ⟨h1, h2⟩ => ⟨h1, h.below h2, h2.mono hB⟩
  | held hk hv h0 p ha hp =>
    have hr : putR k v r = r := if_pos ⟨hk, hv, h0⟩
    rw [hr]
    exact rput_held h hB hI k v hk hv h0 at_ r hfn p ha hp
  | nil hk hv h0 ha hv0 =>
    have hr : putR k v r = r := if_pos ⟨hk, hv, h0⟩
    rw [hr]
    exact rput_nil h hB hI k v hk hv h0 at_ r hfn ha hv0
  | zero hk hv h0 ha hv0 hl =>
    have hr : putR k v r = r := if_pos ⟨hk, hv, h0⟩
    rw [hr]
    exact rput_zero h hB hI k v hk hv h0 at_ r hfn ha hv0 (by rw [hl]; rfl)
  | full hk hv h0 ha hv0 hV hf =>
    have hr : putR k v r = r := if_pos ⟨hk, hv, h0⟩
    rw [hr]
    exact rput_full h hB hI k v hk hv h0 at_ r hfn ha hv0 hV _ rfl (hf _ (hp_lt hV.pow k)) (room_none l f (fun p hp => hf p (Nat.lt_of_lt_of_le hp hV.fle)))
  | step hk hv h0 ha hv0 hV hst =>
    have hr : putR k v r = r := if_pos ⟨hk, hv, h0⟩
    rw [hr]
    cases hst with
    | a hn => exact rput_a h hB hI k v hk hv h0 at_ r hfn ha hv0 hV _ rfl hn
    | c hn fi t hr hff hfz ho ht x y => exact rput_c h hB hI k v hk hv h0 at_ r hfn ha hv0 hV _ rfl hn f' hr hff (fun e => hn (e ▸ hfz)) ho t ht x y
    | d hn fi o q D E hr hff hfz ho hom hC x y => exact rput_d h hB hI k v hk hv h0 at_ r hfn ha hv0 hV _ rfl hn f' hr hff (fun e => hn (e ▸ hfz)) o q ho hom D E hC x y
end Go.Proofs.Ytlmmhlabacghnaa.PH
/- nodes: the reference's New. -/
namespace Go.Proofs.Ytlmmhlabacghnaa.PH
open Go.RowKit Go.Proofs.YtlmmhlabacghnaaW.PrintWords Go.Proofs.YtlmmhlabacghnaaW.PrintLast Go.Proofs.YtlmmhlabacghnaaW.PrintMore
open Go.Proofs.Ytlmmhlabacghnaa.HM
set_option linter.unusedVariables false
set_option linter.unusedSimpArgs false

def zk (n : Nat) : Array Value := madeCells (kv z30).cells (n * 3)
def zc (n : Nat) : Array Value := madeCells (Value.slice none 0 0).cells (n * 1)
theorem zk_row {B : Nat} (w : World) (n : Nat) (hn : n ≤ 65536) (hB : B ≤ w.heap.size) : Kd.R k30 30 (w.alloc (.cells (zk n) 30)) B (fun k => k = w.heap.size) (.slice (some ⟨w.heap.size, 0, none⟩) n n) (List.replicate n z30) := by
  have hrep : Reps (Kd.M k30 w B (fun _ => False)) 3 (List.replicate n z30) (madeCells (kv z30).cells (n * 3)).toList := Kd.reps_made (z := kv z30) rfl (by decide) (k30_mkM _ _ _ _) n
  refine ⟨fun k hk => ?_, (madeCells (kv z30).cells (n * 3)).toList, ?_, ?_⟩
  · have : w.heap.size = k := by simpa [Value.ownBlock] using hk
    exact this.symm
  · have h2 := World.ownsRow_lit (base := B) (e := 30) (size := 3) w (madeCells (kv z30).cells (n * 3)) n hB (by simp [maxLen]; omega) (by simp [size_madeCells])
    rw [List.length_replicate]
    exact h2
  · exact hrep.imp_ (fun p c hp => Kd.M_mono _ (fun k hk => hk.1.elim) (Kd.M_below (Kd.M_bound _ hp) (below_alloc (Below.refl _ _) _)))
theorem zc_row {B : Nat} (w : World) (n : Nat) (hn : n ≤ 65536) (hB : B ≤ w.heap.size) (ok : Nat → Prop) (hok : ok w.heap.size) : Kd.S KI 49 (w.alloc (.cells (zc n) 49)) B ok (.slice (some ⟨w.heap.size, 0, none⟩) n n) (List.replicate n ([] : List Int)) := by
  have hrep : Reps (Kd.M (Kd.bare KI) (w.alloc (.cells (zc n) 49)) B (fun k => ok k ∧ some k ≠ (Value.slice (some ⟨w.heap.size, 0, none⟩) n n).ownBlock)) 1 (List.replicate n ([] : List Int)) (madeCells (Value.slice none 0 0).cells (n * 1)).toList := Kd.reps_made (z := Value.slice none 0 0) rfl (by decide) (⟨Value.slice none 0 0, rfl, Kd.R_nil _ _ _ _ _⟩ : (Kd.bare KI).M (w.alloc (.cells (zc n) 49)) B (fun k => ok k ∧ some k ≠ (Value.slice (some ⟨w.heap.size, 0, none⟩) n n).ownBlock) [] [Value.slice none 0 0]) n
  refine Kd.S_bare ⟨fun k hk => ?_, (madeCells (Value.slice none 0 0).cells (n * 1)).toList, ?_, hrep⟩
  · have : w.heap.size = k := by simpa [Value.ownBlock] using hk
    rw [← this]; exact hok
  · have h2 := World.ownsRow_lit (base := B) (e := 49) (size := 1) w (madeCells (Value.slice none 0 0).cells (n * 1)) n hB (by simp [maxLen]; omega) (by simp [size_madeCells])
    rw [List.length_replicate]
    exact h2
theorem zk_at {B b n : Nat} {W : World} (hn : n ≤ 65536) (h : W.heap[b]? = some (.cells (zk n) 30 (0, 0))) (hB : B ≤ b) : Kd.R k30 30 W B (fun k => k = b) (.slice (some ⟨b, 0, none⟩) n n) (List.replicate n z30) := by
  have hb : b < W.heap.size := (Array.getElem?_eq_some_iff.1 h).1
  have hs : ({ W with heap := W.heap.extract 0 b } : World).heap.size = b := by show (W.heap.extract 0 b).size = b; simp; omega
  have hr := zk_row (B := B) ({ W with heap := W.heap.extract 0 b } : World) n hn (by rw [hs]; exact hB)
  rw [hs] at hr
  refine Kd.R_step hr (fun k hk _ => ?_)
  have hnew := heap_alloc_new ({ W with heap := W.heap.extract 0 b } : World) (.cells (zk n) 30)
  rw [hs] at hnew
  rw [hk, h, hnew]
theorem zc_at {B b n : Nat} {W : World} (hn : n ≤ 65536) (h : W.heap[b]? = some (.cells (zc n) 49 (0, 0))) (hB : B ≤ b) (ok : Nat → Prop) (hok : ok b) : Kd.S KI 49 W B ok (.slice (some ⟨b, 0, none⟩) n n) (List.replicate n ([] : List Int)) := by
  have hb : b < W.heap.size := (Array.getElem?_eq_some_iff.1 h).1
  have hs : ({ W with heap := W.heap.extract 0 b } : World).heap.size = b := by show (W.heap.extract 0 b).size = b; simp; omega
  have hr := zc_row (B := B) ({ W with heap := W.heap.extract 0 b } : World) n hn (by rw [hs]; exact hB) (fun k => k = b) hs
  rw [hs] at hr
  refine Kd.S_mono (Kd.S_step hr (fun k hk _ => ?_)) (fun k hk => by rw [hk]; exact hok)
  have hnew := heap_alloc_new ({ W with heap := W.heap.extract 0 b } : World) (.cells (zc n) 49)
  rw [hs] at hnew
  rw [hk, h, hnew]
theorem mk_keys (n : Nat) (hn : n ≤ 65536) (w : World) : Sem.run Try.prog (Instr.makeSlice 71 (.int .i64 (n : Int)) (.int .i64 (n : Int))) w = .ok (.slice (some ⟨w.heap.size, 0, none⟩) n n) (w.alloc (.cells (zk n) 30)) := by
  have hi : (Try.prog.info? 30).map (fun i => (i.zero, i.size, i.bytes)) = some (some (kv z30), 3, 32) := by kernel_rfl
  obtain ⟨i0, hi0, hz0⟩ := Option.map_eq_some_iff.1 hi
  simp only [Prod.mk.injEq] at hz0
  have h := run_make (P := Try.prog) w 71 30 i0 (kv z30) (by kernel_rfl) hi0 hz0.1 .i64 .i64 (n : Int) (n : Int) (by omega) (Int.le_refl _) (by rw [hz0.2.2]; omega) (by omega)
  rw [hz0.2.1, Int.toNat_natCast] at h
  exact h
theorem mk_chains (n : Nat) (hn : n ≤ 65536) (w : World) : Sem.run Try.prog (Instr.makeSlice 86 (.int .i64 (n : Int)) (.int .i64 (n : Int))) w = .ok (.slice (some ⟨w.heap.size, 0, none⟩) n n) (w.alloc (.cells (zc n) 49)) := by
  have hi : (Try.prog.info? 49).map (fun i => (i.zero, i.size, i.bytes)) = some (some (.slice none 0 0), 1, 24) := by kernel_rfl
  obtain ⟨i0, hi0, hz0⟩ := Option.map_eq_some_iff.1 hi
  simp only [Prod.mk.injEq] at hz0
  have h := run_make (P := Try.prog) w 86 49 i0 (.slice none 0 0) (by kernel_rfl) hi0 hz0.1 .i64 .i64 (n : Int) (n : Int) (by omega) (Int.le_refl _) (by rw [hz0.2.2]; omega) (by omega)
  rw [hz0.2.1, Int.toNat_natCast] at h
  exact h
theorem ksOf_zero (n : Nat) : ksOf (List.replicate n zN) = List.replicate n z30 := by unfold ksOf; rw [List.map_replicate]; rfl
theorem vsOf_zero (n : Nat) : vsOf (List.replicate n zN) = List.replicate n z30 := by unfold vsOf; rw [List.map_replicate]; rfl
theorem csOf_zero (n : Nat) : csOf n (fun _ => []) = List.replicate n ([] : List Int) := by
  unfold csOf
  rw [show (fun j : Nat => (([] : List Nat).map (fun x : Nat => (x : Int)))) = (fun _ => ([] : List Int)) from rfl, List.map_const', List.length_range]
theorem four_new (w : World) (A B C P : Obj) : ((((w.alloc A).alloc B).alloc C).alloc P).drew.heap[w.heap.size]? = some A ∧ ((((w.alloc A).alloc B).alloc C).alloc P).drew.heap[w.heap.size + 1]? = some B ∧ ((((w.alloc A).alloc B).alloc C).alloc P).drew.heap[w.heap.size + 1 + 1]? = some C ∧ ((((w.alloc A).alloc B).alloc C).alloc P).drew.heap[w.heap.size + 1 + 1 + 1]? = some P := by
  have e0 := heap_alloc_new w A
  have e1 : ((w.alloc A).alloc B).heap[w.heap.size + 1]? = some B := by have := heap_alloc_new (w.alloc A) B; simpa using this
  have e2 : (((w.alloc A).alloc B).alloc C).heap[w.heap.size + 1 + 1]? = some C := by have := heap_alloc_new ((w.alloc A).alloc B) C; simpa using this
  have e3 : ((((w.alloc A).alloc B).alloc C).alloc P).heap[w.heap.size + 1 + 1 + 1]? = some P := by have := heap_alloc_new (((w.alloc A).alloc B).alloc C) P; simpa using this
  exact ⟨blk_drew (blk_alloc (blk_alloc (blk_alloc e0 _) _) _), blk_drew (blk_alloc (blk_alloc e1 _) _), blk_drew (blk_alloc e2 _), blk_drew e3⟩
theorem new_fin {w W : World} {n q b1 b2 b3 : Nat} (hn : n ≤ 65536) (hq : W.heap[q]? = some (.cells #[.slice (some ⟨b1, 0, none⟩) n n, .slice (some ⟨b2, 0, none⟩) n n, .slice (some ⟨b3, 0, none⟩) n n, .int .i64 (n : Int)] 88 (0, 0)))
    (h1 : W.heap[b1]? = some (.cells (zk n) 30 (0, 0))) (h2 : W.heap[b2]? = some (.cells (zk n) 30 (0, 0))) (h3 : W.heap[b3]? = some (.cells (zc n) 49 (0, 0)))
    (g1 : w.heap.size ≤ b1) (g2 : w.heap.size ≤ b2) (g3 : w.heap.size ≤ b3) (g4 : w.heap.size ≤ q) (n1 : q ≠ b1) (n2 : q ≠ b2) (n3 : b1 ≠ b2) (n4 : b3 ≠ q) (n5 : b3 ≠ b1 ∧ b3 ≠ b2) (hb : Below w.heap.size w W) :
    ∃ q' bk bv bc, Ending.returned (Value.pointer (some ⟨q, 0, none⟩)) = .returned (.pointer (some ⟨q', 0, none⟩)) ∧ IsR w.heap.size q' bk bv bc n n n (List.replicate n zN) n (fun _ => []) W ∧ Below w.heap.size w W := by
  have hl : (List.replicate n zN).length = n := List.length_replicate
  refine ⟨q, b1, b2, b3, rfl, ⟨by rw [hl]; exact hq, by rw [hl, ksOf_zero]; exact zk_at hn h1 g1, by rw [hl, vsOf_zero]; exact zk_at hn h2 g2, by rw [hl, csOf_zero]; exact zc_at hn h3 g3 _ ⟨n4, n5.1, n5.2⟩, n1, n2, n3, g4, by rw [hl]; exact hn⟩, hb⟩
set_option maxHeartbeats 8000000 in
set_option maxRecDepth 100000 in
theorem rnew_call (w : World) (n : Nat) (hn : n ≤ 65536) : Calls Try.prog 79 #[.int .i64 n] w fun e w' => ∃ q bk bv bc, e = .returned (.pointer (some ⟨q, 0, none⟩)) ∧ IsR w.heap.size q bk bv bc n n n (List.replicate n zN) n (fun _ => []) w' ∧ Below w.heap.size w w' := by
  have h1 := mk_keys n hn
  have h3 := mk_chains n hn
  have hu := Try.underlying88
  have HN := Lib.hid hn
  clear hn
  go_enter Try.func79, Try.ntmps79
  go_wp2_with fail
  go_region_with fail
  all_goals
    go_wp2_with fail
    go_ret
    first
      | exact new_fin HN.out (b1 := w.heap.size) (b2 := w.heap.size + 1) (b3 := w.heap.size + 1 + 1) (by first | with_reducible exact (four_new _ _ _ _ _).2.2.2 | with_reducible exact (four_new _ _ _ _ _).1 | with_reducible exact (four_new _ _ _ _ _).2.1 | with_reducible exact (four_new _ _ _ _ _).2.2.1) (by first | with_reducible exact (four_new _ _ _ _ _).2.2.2 | with_reducible exact (four_new _ _ _ _ _).1 | with_reducible exact (four_new _ _ _ _ _).2.1 | with_reducible exact (four_new _ _ _ _ _).2.2.1) (by first | with_reducible exact (four_new _ _ _ _ _).2.2.2 | with_reducible exact (four_new _ _ _ _ _).1 | with_reducible exact (four_new _ _ _ _ _).2.1 | with_reducible exact (four_new _ _ _ _ _).2.2.1) (by first | with_reducible exact (four_new _ _ _ _ _).2.2.2 | with_reducible exact (four_new _ _ _ _ _).1 | with_reducible exact (four_new _ _ _ _ _).2.1 | with_reducible exact (four_new _ _ _ _ _).2.2.1) (by omega) (by omega) (by omega) (by omega) (by omega) (by omega) (by omega) (by omega) (by omega) (by repeat (first | exact Below.refl _ _ | apply below_alloc | apply below_drew1))
      | exact new_fin HN.out (b1 := w.heap.size) (b2 := w.heap.size + 1 + 1) (b3 := w.heap.size + 1) (by first | with_reducible exact (four_new _ _ _ _ _).2.2.2 | with_reducible exact (four_new _ _ _ _ _).1 | with_reducible exact (four_new _ _ _ _ _).2.1 | with_reducible exact (four_new _ _ _ _ _).2.2.1) (by first | with_reducible exact (four_new _ _ _ _ _).2.2.2 | with_reducible exact (four_new _ _ _ _ _).1 | with_reducible exact (four_new _ _ _ _ _).2.1 | with_reducible exact (four_new _ _ _ _ _).2.2.1) (by first | with_reducible exact (four_new _ _ _ _ _).2.2.2 | with_reducible exact (four_new _ _ _ _ _).1 | with_reducible exact (four_new _ _ _ _ _).2.1 | with_reducible exact (four_new _ _ _ _ _).2.2.1) (by first | with_reducible exact (four_new _ _ _ _ _).2.2.2 | with_reducible exact (four_new _ _ _ _ _).1 | with_reducible exact (four_new _ _ _ _ _).2.1 | with_reducible exact (four_new _ _ _ _ _).2.2.1) (by omega) (by omega) (by omega) (by omega) (by omega) (by omega) (by omega) (by omega) (by omega) (by repeat (first | exact Below.refl _ _ | apply below_alloc | apply below_drew1))
      | exact new_fin HN.out (b1 := w.heap.size + 1) (b2 := w.heap.size) (b3 := w.heap.size + 1 + 1) (by first | with_reducible exact (four_new _ _ _ _ _).2.2.2 | with_reducible exact (four_new _ _ _ _ _).1 | with_reducible exact (four_new _ _ _ _ _).2.1 | with_reducible exact (four_new _ _ _ _ _).2.2.1) (by first | with_reducible exact (four_new _ _ _ _ _).2.2.2 | with_reducible exact (four_new _ _ _ _ _).1 | with_reducible exact (four_new _ _ _ _ _).2.1 | with_reducible exact (four_new _ _ _ _ _).2.2.1) (by first | with_reducible exact (four_new _ _ _ _ _).2.2.2 | with_reducible exact (four_new _ _ _ _ _).1 | with_reducible exact (four_new _ _ _ _ _).2.1 | with_reducible exact (four_new _ _ _ _ _).2.2.1) (by first | with_reducible exact (four_new _ _ _ _ _).2.2.2 | with_reducible exact (four_new _ _ _ _ _).1 | with_reducible exact (four_new _ _ _ _ _).2.1 | with_reducible exact (four_new _ _ _ _ _).2.2.1) (by omega) (by omega) (by omega) (by omega) (by omega) (by omega) (by omega) (by omega) (by omega) (by repeat (first | exact Below.refl _ _ | apply below_alloc | apply below_drew1))
      | exact new_fin HN.out (b1 := w.heap.size + 1 + 1) (b2 := w.heap.size) (b3 := w.heap.size + 1) (by first | with_reducible exact (four_new _ _ _ _ _).2.2.2 | with_reducible exact (four_new _ _ _ _ _).1 | with_reducible exact (four_new _ _ _ _ _).2.1 | with_reducible exact (four_new _ _ _ _ _).2.2.1) (by first | with_reducible exact (four_new _ _ _ _ _).2.2.2 | with_reducible exact (four_new _ _ _ _ _).1 | with_reducible exact (four_new _ _ _ _ _).2.1 | with_reducible exact (four_new _ _ _ _ _).2.2.1) (by first | with_reducible exact (four_new _ _ _ _ _).2.2.2 | with_reducible exact (four_new _ _ _ _ _).1 | with_reducible exact (four_new _ _ _ _ _).2.1 | with_reducible exact (four_new _ _ _ _ _).2.2.1) (by first | with_reducible exact (four_new _ _ _ _ _).2.2.2 | with_reducible exact (four_new _ _ _ _ _).1 | with_reducible exact (four_new _ _ _ _ _).2.1 | with_reducible exact (four_new _ _ _ _ _).2.2.1) (by omega) (by omega) (by omega) (by omega) (by omega) (by omega) (by omega) (by omega) (by omega) (by repeat (first | exact Below.refl _ _ | apply below_alloc | apply below_drew1))
      | exact new_fin HN.out (b1 := w.heap.size + 1) (b2 := w.heap.size + 1 + 1) (b3 := w.heap.size) (by first | with_reducible exact (four_new _ _ _ _ _).2.2.2 | with_reducible exact (four_new _ _ _ _ _).1 | with_reducible exact (four_new _ _ _ _ _).2.1 | with_reducible exact (four_new _ _ _ _ _).2.2.1) (by first | with_reducible exact (four_new _ _ _ _ _).2.2.2 | with_reducible exact (four_new _ _ _ _ _).1 | with_reducible exact (four_new _ _ _ _ _).2.1 | with_reducible exact (four_new _ _ _ _ _).2.2.1) (by first | with_reducible exact (four_new _ _ _ _ _).2.2.2 | with_reducible exact (four_new _ _ _ _ _).1 | with_reducible exact (four_new _ _ _ _ _).2.1 | with_reducible exact (four_new _ _ _ _ _).2.2.1) (by first | with_reducible exact (four_new _ _ _ _ _).2.2.2 | with_reducible exact (four_new _ _ _ _ _).1 | with_reducible exact (four_new _ _ _ _ _).2.1 | with_reducible exact (four_new _ _ _ _ _).2.2.1) (by omega) (by omega) (by omega) (by omega) (by omega) (by omega) (by omega) (by omega) (by omega) (by repeat (first | exact Below.refl _ _ | apply below_alloc | apply below_drew1))
      | exact new_fin HN.out (b1 := w.heap.size + 1 + 1) (b2 := w.heap.size + 1) (b3 := w.heap.size) (by first | with_reducible exact (four_new _ _ _ _ _).2.2.2 | with_reducible exact (four_new _ _ _ _ _).1 | with_reducible exact (four_new _ _ _ _ _).2.1 | with_reducible exact (four_new _ _ _ _ _).2.2.1) (by first | with_reducible exact (four_new _ _ _ _ _).2.2.2 | with_reducible exact (four_new _ _ _ _ _).1 | with_reducible exact (four_new _ _ _ _ _).2.1 | with_reducible exact (four_new _ _ _ _ _).2.2.1) (by first | with_reducible exact (four_new _ _ _ _ _).2.2.2 | with_reducible exact (four_new _ _ _ _ _).1 | with_reducible exact (four_new _ _ _ _ _).2.1 | with_reducible exact (four_new _ _ _ _ _).2.2.1) (by first | with_reducible exact (four_new _ _ _ _ _).2.2.2 | with_reducible exact (four_new _ _ _ _ _).1 | with_reducible exact (four_new _ _ _ _ _).2.1 | with_reducible exact (four_new _ _ _ _ _).2.2.1) (by omega) (by omega) (by omega) (by omega) (by omega) (by omega) (by omega) (by omega) (by omega) (by repeat (first | exact Below.refl _ _ | apply below_alloc | apply below_drew1))
end Go.Proofs.Ytlmmhlabacghnaa.PH
/- nodes, plain: the two dumps are the same. -/
namespace Go.Proofs.Ytlmmhlabacghnaa.PH
open Go.RowKit Go.Proofs.YtlmmhlabacghnaaW.PrintWords Go.Proofs.YtlmmhlabacghnaaW.PrintLast Go.Proofs.YtlmmhlabacghnaaW.PrintMore
open Go.Proofs.Ytlmmhlabacghnaa.HM
set_option linter.unusedVariables false
set_option linter.unusedSimpArgs false

abbrev Rd := S89
/-- A node as the reference has it. -/
def rn (x : Nd) : Rd := ⟨x.f0, x.f1, x.f2⟩
theorem rd_rn (l : List Nd) (i : Int) : rd_T89 (l.map rn) i = rn (rd_T67 l i) := by
  unfold rd_T89 rd_T67
  rw [List.getD_eq_getElem?_getD, List.getD_eq_getElem?_getD, List.getElem?_map]
  cases l[i.toNat]? <;> rfl
theorem same_l0 (l : List Nd) (hl : l.length ≤ 65536) : ∀ (d k i : Nat), i + d = l.length → d < k → trestlelaw07_same.l0 k l (l.map rn) (i : Int) = some true
  | 0, k + 1, i, hi, _ => by
    unfold trestlelaw07_same.l0
    rw [if_neg (by omega)]
  | d + 1, k + 1, i, hi, hk => by
    have hw : wrap64 ((i : Int) + 1) = ((i + 1 : Nat) : Int) := by unfold wrap64; omega
    unfold trestlelaw07_same.l0
    rw [if_pos (by omega), if_pos (by omega), if_pos (by rw [List.length_map]; omega), rd_rn]
    simp only [rn, beq_self_eq_true, Bool.not_true, Bool.or_self, Bool.false_eq_true, if_false, if_true]
    rw [hw]
    exact same_l0 l hl d k (i + 1) (by omega) (by omega)
theorem same_true (l : List Nd) (hl : l.length ≤ 65536) : trestlelaw07_same.f (l.length + 1) l (l.map rn) = some true := by
  unfold trestlelaw07_same.f
  rw [if_pos (by rw [List.length_map])]
  exact same_l0 l hl l.length (l.length + 1) 0 (by omega) (by omega)
end Go.Proofs.Ytlmmhlabacghnaa.PH
/- nodes: both parts, the program's and the reference's. -/
namespace Go.Proofs.Ytlmmhlabacghnaa.PH
open Go.RowKit Go.Proofs.YtlmmhlabacghnaaW.PrintWords Go.Proofs.YtlmmhlabacghnaaW.PrintLast Go.Proofs.YtlmmhlabacghnaaW.PrintMore
open Go.Proofs.Ytlmmhlabacghnaa.HM
set_option linter.unusedVariables false
set_option linter.unusedSimpArgs false

/-- Both parts, that hold the same. -/
structure Both (w0 : World) (B g a cap q bk bv bc ck cv cc : Nat) (l : List Nd) (f : Nat) (C : Nat → List Nat) (w : World) : Prop where
  st : St w0 g a cap l f w
  rf : IsR B q bk bv bc ck cv cc l f C w
  ga : g < B ∧ a < B
  wb : w0.heap.size ≤ B
  bw : B ≤ w.heap.size
theorem Both.below {w0 w w' : World} {B g a cap q bk bv bc ck cv cc : Nat} {l : List Nd} {f : Nat} {C : Nat → List Nat} (h : Both w0 B g a cap q bk bv bc ck cv cc l f C w) (hb : Below w.heap.size w w') : Both w0 B g a cap q bk bv bc ck cv cc l f C w' :=
  ⟨h.st.below hb, h.rf.below hb, h.ga, h.wb, Nat.le_trans h.bw hb.size⟩
/-- Both Puts, one behind the other. -/
theorem Both.put {w0 w w1 w2 : World} {B g a cap q bk bv bc ck cv cc : Nat} {l l' : List Nd} {f f' : Nat} {C C' : Nat → List Nat} (h : Both w0 B g a cap q bk bv bc ck cv cc l f C w) (hI : IsP w0.heap.size g a cap l' f' w1) (hF : Fr (fun k => k = g ∨ k = a) w w1) (hR : IsR B q bk bv bc ck cv cc l' f' C' w2) (hb : Below B w1 w2) : Both w0 B g a cap q bk bv bc ck cv cc l' f' C' w2 := by
  have hga := h.ga
  have s1 := h.st.put hI hF
  refine ⟨⟨⟨(hb.block g hga.1).trans s1.p.blk, Kd.R_step s1.p.row (fun k hk _ => hb.block k (by omega)), s1.p.ne, s1.p.len⟩, s1.b.trans (hb.mono h.wb), s1.g⟩, hR, hga, h.wb, Nat.le_trans h.bw (Nat.le_trans hF.size hb.size)⟩
/-- The reference's part behind the program's Put. -/
theorem Both.rfar {w0 w w1 : World} {B g a cap q bk bv bc ck cv cc : Nat} {l : List Nd} {f : Nat} {C : Nat → List Nat} (h : Both w0 B g a cap q bk bv bc ck cv cc l f C w) (hF : Fr (fun k => k = g ∨ k = a) w w1) : IsR B q bk bv bc ck cv cc l f C w1 :=
  h.rf.low (fun k hk hlt => hF.block k hlt (by have := h.ga; omega))
set_option maxHeartbeats 4000000 in
set_option maxRecDepth 100000 in
theorem begin_both (w : World) (n : Nat) (hp1 : RightN n) (hn : n ≤ 4096) : Calls Try.prog 45 #[.int .i64 n] w fun e w' => ∃ B g a cap q bk bv bc, e = .returned (.tuple #[.pointer (some ⟨g, 0, none⟩), .pointer (some ⟨q, 0, none⟩), .bool true]) ∧ Both w B g a cap q bk bv bc n n n (List.replicate n zN) n (fun _ => []) w' := by
  have d1 : decide ((n : Int) > 4096) = false := decide_eq_false (by omega)
  have d2 : decide (4096 < (n : Int)) = false := decide_eq_false (by omega)
  obtain ⟨r, hr, hrt⟩ := right_any (s := (n : Int)) (by omega)
  obtain rfl : r = true := hrt.2 hp1
  have HR := Lib.hid hr
  have HZ := Lib.hid (bits_right hp1)
  clear hp1 hr hrt
  go_enter Try.func45, Try.ntmps45
  go_wp2_with fail
  refine (trestleref07_Right.calls 18 n true _ HR.out).mono ?_
  rintro e w1 ⟨rfl, nd1, rfl⟩
  go_wp2_with fail
  refine (new_call _ n (by omega) HZ.out).mono ?_
  rintro e w2 ⟨g, a, cap, rfl, hI, hb, hg⟩
  have I2 : RowKit.Hid (St w g a cap (List.replicate n zN) n w2) := Lib.hid ⟨hI, (by have h := hb; exact (pw_below_drewN (Below.refl w.heap.size w) nd1).trans h), hg⟩
  clear hI hb hg
  go_wp2_with fail
  refine (rnew_call _ n (by omega)).mono ?_
  rintro e w3 ⟨q, bk, bv, bc, rfl, hR, hb⟩
  have I3 : RowKit.Hid (Both w w2.heap.size g a cap q bk bv bc n n n (List.replicate n zN) n (fun _ => []) w3) := Lib.hid ⟨I2.out.below hb, hR, I2.out.lt, I2.out.b.size, hb.size⟩
  clear hb I2 hR
  go_wp2_with fail
  go_ret3
  exact ⟨_, _, _, _, _, _, _, _, rfl, I3.out⟩
end Go.Proofs.Ytlmmhlabacghnaa.PH
/- nodes: the reference's Dump: its row, its cells written; what its row becomes. -/
namespace Go.Proofs.Ytlmmhlabacghnaa.PH
open Go.RowKit Go.Proofs.YtlmmhlabacghnaaW.PrintWords Go.Proofs.YtlmmhlabacghnaaW.PrintLast Go.Proofs.YtlmmhlabacghnaaW.PrintMore
open Go.Proofs.Ytlmmhlabacghnaa.HM
set_option linter.unusedVariables false
set_option linter.unusedSimpArgs false

abbrev zRd : Rd := z89
def rdd (L : List Rd) (j : Nat) : Rd := L.getD j zRd
theorem rdd_set (L : List Rd) (i j : Nat) (x : Rd) : rdd (L.set i x) j = if i = j ∧ i < L.length then x else rdd L j := by
  unfold rdd
  rw [List.getD_eq_getElem?_getD, List.getD_eq_getElem?_getD, List.getElem?_set]
  by_cases h : i = j
  · subst h
    by_cases h2 : i < L.length
    · rw [if_pos rfl, if_pos h2, if_pos ⟨rfl, h2⟩]; rfl
    · rw [if_pos rfl, if_neg h2, if_neg (by omega), List.getElem?_eq_none (by omega)]
  · rw [if_neg h, if_neg (by omega)]
/-- The row that Dump fills: block d, at D or above. -/
structure DW (D d N : Nat) (L : List Rd) (w : World) : Prop where
  row : Kd.R k89 89 w D (fun k => k = d) (.slice (some ⟨d, 0, none⟩) N N) L
section
variable {D d N : Nat} {L : List Rd} {w w' : World}
theorem DW.len (h : DW D d N L w) : L.length = N := (Kd.R_reads' h.row).1.symm
theorem DW.ge (h : DW D d N L w) : D ≤ d := Kd.R_base h.row d (by simp [Value.ownBlock])
theorem DW.lt (h : DW D d N L w) : d < w.heap.size := Kd.R_lt h.row d (by simp [Value.ownBlock])
theorem DW.below (h : DW D d N L w) (hb : Below w.heap.size w w') : DW D d N L w' := ⟨Kd.R_below h.row hb⟩
theorem DW.free (h : DW D d N L w) (i : Nat) : w.frozen? ⟨d, i, none⟩ = false := by
  obtain ⟨_, inner, ho, _⟩ := h.row
  obtain ⟨cells, hc⟩ := own_typed ho d (by simp [Value.ownBlock])
  exact blk_frozen hc _
theorem DW.cells (h : DW D d N L w) (i : Nat) (hi : i < N) :
    w.cell? ⟨d, i * 7, none⟩ = some (.int .i64 (rdd L i).f0.f0) ∧ w.cell? ⟨d, i * 7 + 1, none⟩ = some (.int .i64 (rdd L i).f0.f1) ∧ w.cell? ⟨d, i * 7 + 2, none⟩ = some (.string (rdd L i).f0.f2) ∧
    w.cell? ⟨d, i * 7 + 3, none⟩ = some (.int .i64 (rdd L i).f1.f0) ∧ w.cell? ⟨d, i * 7 + 4, none⟩ = some (.int .i64 (rdd L i).f1.f1) ∧ w.cell? ⟨d, i * 7 + 5, none⟩ = some (.string (rdd L i).f1.f2) ∧ w.cell? ⟨d, i * 7 + 6, none⟩ = some (.int .i64 (rdd L i).f2) := by
  obtain ⟨ad, e, q⟩ := at_T89 (Kd.R_reads' h.row).2.2 (i : Int) (by omega) (by have := h.len; omega)
  obtain rfl := Option.some.inj e
  rw [Int.toNat_natCast, add_blk] at q
  have hr : rd_T89 L (i : Int) = rdd L i := by unfold rd_T89 rdd; rw [Int.toNat_natCast]
  rw [hr] at q
  exact q
theorem DW.cc (h : DW D d N L w) (i : Nat) (hi : i < N) : ∀ j u, [Value.int .i64 (rdd L i).f0.f0, .int .i64 (rdd L i).f0.f1, .string (rdd L i).f0.f2, .int .i64 (rdd L i).f1.f0, .int .i64 (rdd L i).f1.f1, .string (rdd L i).f1.f2, .int .i64 (rdd L i).f2][j]? = some u → w.cell? ⟨d, (i : Int).toNat * 7 + j, none⟩ = some u := by
  obtain ⟨q0, q1, q2, q3, q4, q5, q6⟩ := h.cells i hi
  intro j u hu
  rw [Int.toNat_natCast]
  match j, hu with
  | 0, hu => cases hu; exact q0
  | 1, hu => cases hu; exact q1
  | 2, hu => cases hu; exact q2
  | 3, hu => cases hu; exact q3
  | 4, hu => cases hu; exact q4
  | 5, hu => cases hu; exact q5
  | 6, hu => cases hu; exact q6
  | j + 7, hu => simp at hu
theorem DW.setK (h : DW D d N L w) (i : Nat) (hi : i < N) (k : Ky) : DW D d N (L.set i ⟨k, (rdd L i).f1, (rdd L i).f2⟩) (((w.setCell ⟨d, i * 7, none⟩ (.int .i64 k.f0)).setCell ⟨d, i * 7 + 1, none⟩ (.int .i64 k.f1)).setCell ⟨d, i * 7 + 2, none⟩ (.string k.f2)) := by
  obtain ⟨hR, _⟩ := Kd.R_seg (d := k89) h.row (i : Int) (by omega) (by omega) (seg := [.int .i64 k.f0, .int .i64 k.f1, .string k.f2]) (j := 0) (x' := ⟨k, (rdd L i).f1, (rdd L i).f2⟩) (okp := fun _ => False) rfl (h.cc i hi) (show 0 + 3 ≤ 7 by decide) (k89_mkM _ _ _ _) (fun _ hk => hk.elim)
  rw [Int.toNat_natCast] at hR
  exact ⟨hR⟩
theorem DW.setV (h : DW D d N L w) (i : Nat) (hi : i < N) (k : Ky) : DW D d N (L.set i ⟨(rdd L i).f0, k, (rdd L i).f2⟩) (((w.setCell ⟨d, i * 7 + 3, none⟩ (.int .i64 k.f0)).setCell ⟨d, i * 7 + 3 + 1, none⟩ (.int .i64 k.f1)).setCell ⟨d, i * 7 + 3 + 2, none⟩ (.string k.f2)) := by
  obtain ⟨hR, _⟩ := Kd.R_seg (d := k89) h.row (i : Int) (by omega) (by omega) (seg := [.int .i64 k.f0, .int .i64 k.f1, .string k.f2]) (j := 3) (x' := ⟨(rdd L i).f0, k, (rdd L i).f2⟩) (okp := fun _ => False) rfl (h.cc i hi) (show 3 + 3 ≤ 7 by decide) (k89_mkM _ _ _ _) (fun _ hk => hk.elim)
  rw [Int.toNat_natCast] at hR
  exact ⟨hR⟩
theorem DW.setX (h : DW D d N L w) (i : Nat) (hi : i < N) (x : Int) : DW D d N (L.set i ⟨(rdd L i).f0, (rdd L i).f1, x⟩) (w.setCell ⟨d, i * 7 + 6, none⟩ (.int .i64 x)) := by
  obtain ⟨hR, _⟩ := Kd.R_seg (d := k89) h.row (i : Int) (by omega) (by omega) (seg := [.int .i64 x]) (j := 6) (x' := ⟨(rdd L i).f0, (rdd L i).f1, x⟩) (okp := fun _ => False) rfl (h.cc i hi) (show 6 + 1 ≤ 7 by decide) (k89_mkM _ _ _ _) (fun _ hk => hk.elim)
  rw [Int.toNat_natCast] at hR
  exact ⟨hR⟩
end
/-- The keys and the values are in, up to i. -/
def Fill (l : List Nd) (L : List Rd) (i : Nat) : Prop := L.length = l.length ∧ ∀ m, m < l.length → (m < i → rdd L m = ⟨(nd l m).f0, (nd l m).f1, 0⟩) ∧ (i ≤ m → rdd L m = zRd)
theorem Fill.zero (l : List Nd) : Fill l (List.replicate l.length zRd) 0 := by
  refine ⟨List.length_replicate, fun m hm => ⟨fun h => by omega, fun _ => ?_⟩⟩
  unfold rdd
  rw [List.getD_eq_getElem?_getD, List.getElem?_replicate, if_pos hm]
  rfl
theorem Fill.next {l : List Nd} {L : List Rd} {i : Nat} (h : Fill l L i) (hi : i < l.length) {x : Rd} (hx : x = ⟨(nd l i).f0, (nd l i).f1, 0⟩) : Fill l (L.set i x) (i + 1) := by
  refine ⟨by rw [List.length_set]; exact h.1, fun m hm => ⟨fun h2 => ?_, fun h2 => ?_⟩⟩
  · rw [rdd_set]
    by_cases e : i = m
    · subst e; rw [if_pos ⟨rfl, by rw [h.1]; exact hi⟩]; exact hx
    · rw [if_neg (fun hh => e hh.1)]; exact (h.2 m hm).1 (by omega)
  · rw [rdd_set, if_neg (by omega)]; exact (h.2 m hm).2 (by omega)
/-- The links are in, up to chain j, there up to k. -/
def Lnk (l : List Nd) (C : Nat → List Nat) (L : List Rd) (j k : Nat) : Prop := L.length = l.length ∧ ∀ m, m < l.length → (rdd L m).f0 = (nd l m).f0 ∧ (rdd L m).f1 = (nd l m).f1 ∧
  ((rdd L m).f2 = (nd l m).f2 ∨ (rdd L m).f2 = 0 ∧ ∀ c p, (C c)[p]? = some m → p + 1 < (C c).length → j < c ∨ (j = c ∧ k ≤ p))
theorem Fill.lnk {l : List Nd} {C : Nat → List Nat} {L : List Rd} (h : Fill l L l.length) : Lnk l C L 0 0 := by
  refine ⟨h.1, fun m hm => ?_⟩
  rw [(h.2 m hm).1 hm]
  exact ⟨rfl, rfl, .inr ⟨rfl, fun c p _ _ => by omega⟩⟩
/-- A chain's end. -/
theorem Lnk.chain {l : List Nd} {C : Nat → List Nat} {L : List Rd} {j k : Nat} (h : Lnk l C L j k) (hk : (C j).length ≤ k + 1) : Lnk l C L (j + 1) 0 := by
  refine ⟨h.1, fun m hm => ?_⟩
  obtain ⟨h0, h1, h2⟩ := h.2 m hm
  refine ⟨h0, h1, h2.imp id (fun e => ⟨e.1, fun c p hc hp => ?_⟩)⟩
  rcases e.2 c p hc hp with e2 | ⟨rfl, e2⟩ <;> omega
theorem Linked.at {l : List Nd} : ∀ {s : List Nat} (k : Nat) {p q : Nat}, Linked l s → s[k]? = some p → s[k + 1]? = some q → (p : Int) + (nd l p).f2 = q
  | _, k, _, _, h, h0, h1 => by
    rename_i s p q
    induction s generalizing k with
    | nil => simp at h0
    | cons a t ih =>
      cases k with
      | zero =>
        cases t with
        | nil => simp at h1
        | cons b t =>
          simp at h0 h1
          subst h0 h1
          exact h.1
      | succ k => exact ih k h.2 (by simpa using h0) (by simpa using h1)
theorem Linked.last {l : List Nd} {s : List Nat} (k : Nat) {p : Nat} (h : Linked l s) (h0 : s[k]? = some p) (h1 : s.length ≤ k + 1) : (nd l p).f2 = 0 := by
  induction s generalizing k with
  | nil => simp at h0
  | cons a t ih =>
    cases k with
    | zero =>
      cases t with
      | nil => simp at h0; subst h0; exact h.1
      | cons b t => simp at h1
    | succ k => exact ih k h.2 (by simpa using h0) (by simp at h1; omega)
theorem Lnk.next {l : List Nd} {f : Nat} {C : Nat → List Nat} (hI : Inv l f C) {L : List Rd} {j k p q : Nat} (h : Lnk l C L j k) (h0 : (C j)[k]? = some p) (h1 : (C j)[k + 1]? = some q) {x : Int} (hx : x = (q : Int) - p) : Lnk l C (L.set p ⟨(rdd L p).f0, (rdd L p).f1, x⟩) j (k + 1) := by
  have hp : p < l.length := (hI.mem j p (List.mem_of_getElem? h0)).1
  have hl := Linked.at k (hI.link j) h0 h1
  refine ⟨by rw [List.length_set]; exact h.1, fun m hm => ?_⟩
  obtain ⟨a0, a1, a2⟩ := h.2 m hm
  rw [rdd_set]
  by_cases e : p = m
  · subst e
    rw [if_pos ⟨rfl, by rw [h.1]; exact hp⟩]
    exact ⟨a0, a1, .inl (by show x = _; omega)⟩
  · rw [if_neg (fun hh => e hh.1)]
    refine ⟨a0, a1, a2.imp id (fun b => ⟨b.1, fun c p' hc hp' => ?_⟩)⟩
    rcases b.2 c p' hc hp' with b2 | ⟨rfl, b2⟩
    · exact .inl b2
    · refine .inr ⟨rfl, ?_⟩
      rcases Nat.lt_or_ge k p' with g | g
      · exact g
      · obtain rfl : k = p' := by omega
        rw [h0] at hc
        exact absurd (Option.some.inj hc) e
theorem Lnk.fin {l : List Nd} {f : Nat} {C : Nat → List Nat} (hI : InvC l f C) {L : List Rd} (h : Lnk l C L l.length 0) : L = l.map rn := by
  apply List.ext_getElem (by rw [List.length_map]; exact h.1)
  intro m h1 h2
  have hm : m < l.length := by rw [← h.1]; exact h1
  obtain ⟨a0, a1, a2⟩ := h.2 m hm
  have e1 : rdd L m = L[m] := by unfold rdd; rw [List.getD_eq_getElem?_getD, List.getElem?_eq_getElem h1]; rfl
  have e2 : nd l m = l[m] := by unfold nd; rw [List.getD_eq_getElem?_getD, List.getElem?_eq_getElem hm]; rfl
  rw [List.getElem_map, ← e1, ← e2]
  have a3 : (rdd L m).f2 = (nd l m).f2 := by
    rcases a2 with a2 | ⟨a2, a3⟩
    · exact a2
    · rcases hI.inv with ⟨hl, _⟩ | hI
      · subst hl; simp at hm
      · rw [a2]
        by_cases hz : (nd l m).f0.f0 = 0
        · rw [hI.emp m hm hz]; rfl
        · obtain ⟨p, hpm⟩ := List.getElem?_of_mem (hI.all m hm hz)
          refine (Linked.last p (hI.link _) hpm ?_).symm
          have := hp_lt hI.pow (nd l m).f0
          rcases Nat.lt_or_ge (p + 1) (C (hp l.length (nd l m).f0)).length with g | g
          · rcases a3 _ p hpm g with g2 | ⟨g2, _⟩ <;> omega
          · exact g
  generalize rdd L m = R at a0 a1 a3
  obtain ⟨b0, b1, b2⟩ := R
  simp only at a0 a1 a3
  rw [a0, a1, a3]
  rfl
end Go.Proofs.Ytlmmhlabacghnaa.PH
/- nodes: the reference's Dump walked. -/
namespace Go.Proofs.Ytlmmhlabacghnaa.PH
open Go.RowKit Go.Proofs.YtlmmhlabacghnaaW.PrintWords Go.Proofs.YtlmmhlabacghnaaW.PrintLast Go.Proofs.YtlmmhlabacghnaaW.PrintMore
open Go.Proofs.Ytlmmhlabacghnaa.HM
set_option linter.unusedVariables false
set_option linter.unusedSimpArgs false

def nvr (d : Rd) : Value := .agg #[.int .i64 d.f0.f0, .int .i64 d.f0.f1, .string d.f0.f2, .int .i64 d.f1.f0, .int .i64 d.f1.f1, .string d.f1.f2, .int .i64 d.f2]
def zr (n : Nat) : Array Value := madeCells (nvr zRd).cells (n * 7)
theorem zr_row (w : World) (n : Nat) (hn : n ≤ 65536) : DW w.heap.size w.heap.size n (List.replicate n zRd) (w.alloc (.cells (zr n) 89)) := by
  have hrep : Reps (Kd.M k89 w w.heap.size (fun _ => False)) 7 (List.replicate n zRd) (madeCells (nvr zRd).cells (n * 7)).toList := Kd.reps_made (z := nvr zRd) rfl (by decide) (k89_mkM _ _ _ _) n
  refine ⟨fun k hk => ?_, (madeCells (nvr zRd).cells (n * 7)).toList, ?_, ?_⟩
  · have : w.heap.size = k := by simpa [Value.ownBlock] using hk
    exact this.symm
  · have h2 := World.ownsRow_lit (base := w.heap.size) (e := 89) (size := 7) w (madeCells (nvr zRd).cells (n * 7)) n (Nat.le_refl _) (by simp [maxLen]; omega) (by simp [size_madeCells])
    rw [List.length_replicate]
    exact h2
  · exact hrep.imp_ (fun p c hp => Kd.M_mono _ (fun k hk => hk.1.elim) (Kd.M_below (Kd.M_bound _ hp) (below_alloc (Below.refl _ _) _)))
theorem mk_nodes (n : Nat) (hn : n ≤ 65536) (w : World) : Sem.run Try.prog (Instr.makeSlice 81 (.int .i64 (n : Int)) (.int .i64 (n : Int))) w = .ok (.slice (some ⟨w.heap.size, 0, none⟩) n n) (w.alloc (.cells (zr n) 89)) := by
  have hi : (Try.prog.info? 89).map (fun i => (i.zero, i.size, i.bytes)) = some (some (nvr zRd), 7, 72) := by kernel_rfl
  obtain ⟨i0, hi0, hz0⟩ := Option.map_eq_some_iff.1 hi
  simp only [Prod.mk.injEq] at hz0
  have h := run_make (P := Try.prog) w 81 89 i0 (nvr zRd) (by kernel_rfl) hi0 hz0.1 .i64 .i64 (n : Int) (n : Int) (by omega) (Int.le_refl _) (by rw [hz0.2.2]; omega) (by omega)
  rw [hz0.2.1, Int.toNat_natCast] at h
  exact h
set_option maxHeartbeats 8000000 in
set_option maxRecDepth 100000 in
theorem rdump_call {B q bk bv bc ck cv cc : Nat} {l : List Nd} {f : Nat} {C : Nat → List Nat} {w : World} (h : IsR B q bk bv bc ck cv cc l f C w) (hI : InvC l f C) :
    Calls Try.prog 57 #[.pointer (some ⟨q, 0, none⟩)] w fun e w' => ∃ d, e = .returned (.slice (some ⟨d, 0, none⟩) l.length l.length) ∧ Kd.C k89 w' (some ⟨d, 0, none⟩) l.length (l.map rn) ∧ Below w.heap.size w w' := by
  have h1 := mk_nodes l.length h.len
  have H := Lib.hid (And.intro h hI)
  have hlen := h.len
  have hlt := h.toL.lt
  obtain ⟨x0, x1, x2, x3, _⟩ := four_of h.blk
  clear h hI
  go_enter Try.func57, Try.ntmps57
  go_wp2_with fail
  have D0 := Lib.hid (zr_row w l.length hlen)
  have B0 := Lib.hid (below_alloc (Below.refl w.heap.size w) (.cells (zr l.length) 89))
  obtain ⟨wA, hwA⟩ : ∃ wA, wA = w.alloc (.cells (zr l.length) 89) := ⟨_, rfl⟩
  rw [← hwA] at D0 B0 ⊢
  clear hwA x0 x1 x2 x3 h1
  go_loopg [4] l.length (fun kq v4 wr => ∃ (i : Nat) (L : List Rd), v4 = .int .i64 i ∧ i + kq = l.length ∧ RowKit.Hid (Fill l L i ∧ DW w.heap.size w.heap.size l.length L wr ∧ Below w.heap.size w wr))
  case atStart => exact ⟨0, _, rfl, by omega, Lib.hid ⟨Fill.zero l, D0.out, B0.out⟩⟩
  case round =>
    obtain ⟨i, L, rfl, hik, hL⟩ := hrel
    have hl4 : (i : Int) ≤ 65536 := by omega
    cases gk with
    | zero =>
      have d1 : decide (i < l.length) = false := decide_eq_false (by omega)
      have d2 : decide ((i : Int) < (l.length : Int)) = false := decide_eq_false (by omega)
      go_wp2_with fail
      have hil : i = l.length := by omega
      subst hil
      have L0 : RowKit.Hid (Lnk l C L 0 0 ∧ DW w.heap.size w.heap.size l.length L wr ∧ Below w.heap.size w wr) := Lib.hid ⟨hL.out.1.lnk, hL.out.2⟩
      clear hL d1 d2 hl4 D0 B0
      have RR := Lib.hid (H.out.1.below L0.out.2.2)
      go_loopg [5, 6, 7] l.length (fun kq v5 v6 v7 wq => ∃ (j : Nat) (L : List Rd), v5 = .int .i64 j ∧ j + kq = l.length ∧ RowKit.Hid (Lnk l C L j 0 ∧ DW w.heap.size w.heap.size l.length L wq ∧ Below w.heap.size w wq))
      case atStart => exact ⟨0, _, rfl, by omega, L0⟩
      case round =>
        obtain ⟨j, L, rfl, hjk, hL⟩ := hrel
        have hl4 : (j : Int) ≤ 65536 := by omega
        clear RR
        have RR := Lib.hid (H.out.1.below hL.out.2.2)
        obtain ⟨x0, x1, x2, x3, _⟩ := four_of RR.out.blk
        cases gk with
        | zero =>
          have d1 : decide (j < l.length) = false := decide_eq_false (by omega)
          have d2 : decide ((j : Int) < (l.length : Int)) = false := decide_eq_false (by omega)
          go_wp2_with fail
          go_ret
          have hjl : j = l.length := by omega
          subst hjl
          have hf := hL.out.1.fin H.out.2
          have hC := (Kd.R_reads' hL.out.2.1.row).2.2
          rw [hf] at hC
          exact ⟨_, rfl, by rw [List.length_map] at hC; exact hC, hL.out.2.2⟩
        | succ k1 =>
          have hj : j < l.length := by omega
          have d1 : decide (j < l.length) = true := decide_eq_true (by omega)
          have d2 : decide ((j : Int) < (l.length : Int)) = true := decide_eq_true (by omega)
          have p1 : 0 ≤ (j : Int) := by omega
          have p2 : (j : Int) < (l.length : Int) := by omega
          replace p1 := eq_true p1
          replace p2 := eq_true p2
          obtain ⟨A, cx, c0w, hCj⟩ := H.out.1.chain j hj
          have c0 : wr.cell? ⟨bc, j, none⟩ = some (.slice A (C j).length cx) := by
            rw [← c0w]
            unfold World.cell?
            simp only [hL.out.2.2.block bc hlt.2.2.2]
          have CJ := Lib.hid hCj
          have hcl := H.out.2.clen j
          clear hCj c0w
          go_wp2_with fail
          go_loopg [7] ((C j).length - 1) (fun kq v7 ws => ∃ (k : Nat) (L : List Rd), v7 = .int .i64 k ∧ k + kq = (C j).length - 1 ∧ RowKit.Hid (Lnk l C L j k ∧ DW w.heap.size w.heap.size l.length L ws ∧ Below w.heap.size w ws))
          case atStart => exact ⟨0, _, rfl, by omega, hL⟩
          case round =>
            obtain ⟨k, L, rfl, hkk, hL⟩ := hrel
            clear c0 x0 x1 x2 x3
            have hl5 : (k : Int) ≤ 65536 := by omega
            cases gk with
            | zero =>
              have d3 : decide ((k : Int) < ((C j).length : Int) - 1) = false := decide_eq_false (by omega)
              go_wp2_with fail
              go_roundg k1
              case measure => omega
              case rel => exact ⟨j + 1, _, by go_num, by omega, Lib.hid ⟨hL.out.1.chain (by omega), hL.out.2⟩⟩
            | succ k2 =>
              have hk : k + 1 < (C j).length := by omega
              have d3 : decide ((k : Int) < ((C j).length : Int) - 1) = true := decide_eq_true (by omega)
              have p3 : 0 ≤ (k : Int) := by omega
              have p4 : (k : Int) < ((C j).length : Int) := by omega
              have p5 : 0 ≤ (k : Int) + 1 := by omega
              have p6 : (k : Int) + 1 < ((C j).length : Int) := by omega
              replace p3 := eq_true p3
              replace p4 := eq_true p4
              replace p5 := eq_true p5
              replace p6 := eq_true p6
              obtain ⟨ad, hA, q0⟩ := at_int (Kd.C_below CJ.out hL.out.2.2) k (by omega)
              obtain ⟨ad2, hA2, q1⟩ := at_int (Kd.C_below CJ.out hL.out.2.2) (k + 1) (by omega)
              obtain rfl : ad = ad2 := Option.some.inj (hA.symm.trans hA2)
              have hp : (C j).getD k 0 < l.length := H.out.2.mem j _ (by rw [List.getD_eq_getElem?_getD, List.getElem?_eq_getElem (by omega)]; exact List.getElem_mem _)
              have hq : (C j).getD (k + 1) 0 < l.length := H.out.2.mem j _ (by rw [List.getD_eq_getElem?_getD, List.getElem?_eq_getElem (by omega)]; exact List.getElem_mem _)
              have g0 : (C j)[k]? = some ((C j).getD k 0) := by rw [List.getD_eq_getElem?_getD, List.getElem?_eq_getElem (by omega)]; rfl
              have g1 : (C j)[k + 1]? = some ((C j).getD (k + 1) 0) := by rw [List.getD_eq_getElem?_getD, List.getElem?_eq_getElem (by omega)]; rfl
              generalize (C j).getD k 0 = P at q0 hp g0
              generalize (C j).getD (k + 1) 0 = P2 at q1 hq g1
              have GG := Lib.hid (And.intro g0 (And.intro g1 (And.intro hA hp)))
              have p7 : 0 ≤ (P : Int) := by omega
              have p8 : (P : Int) < (l.length : Int) := by omega
              replace p7 := eq_true p7
              replace p8 := eq_true p8
              have hP : (P : Int) ≤ 65536 := by omega
              have hP2 : (P2 : Int) ≤ 65536 := by omega
              obtain ⟨z0, z1, z2, z3, z4, z5, z6⟩ := hL.out.2.1.cells P hp
              have f6_ := hL.out.2.1.free (P * 7 + 6)
              subst hA
              clear hA2 g0 g1 hp hq hk z0 z1 z2 z3 z4 z5
              have hw1 : IntKind.i64.wrap ((k : Int) + 1) = (k : Int) + 1 := IntWalk.i64_in _ (by omega)
              have hw2 : IntKind.i64.wrap ((P2 : Int) - (P : Int)) = (P2 : Int) - (P : Int) := IntWalk.i64_in _ (by omega)
              unfold Addr.add at q1
              rw [if_neg (by omega)] at q1
              go_wp2_with fail
              go_still_tail 15, (by kernel_rfl)
              change wpList _ _ _ _ _ wr.drew
              go_wp2_with fail
              go_roundg k2
              case measure => omega
              case rel =>
                have hV : Inv l f C := H.out.2.inv.resolve_left (fun e => by have hp := GG.out.2.2.2; rw [e.1] at hp; simp at hp)
                have hd := hL.out.2.1.setX P GG.out.2.2.2 ((P2 : Int) - (P : Int))
                exact ⟨k + 1, _, by go_num, by omega, Lib.hid ⟨hL.out.1.next hV GG.out.1 GG.out.2.1 rfl, hd.below (Below.refl _ _).drew, (hL.out.2.2.setCell (p := ⟨w.heap.size, P * 7 + 6, none⟩) (Nat.le_refl _) _).drew⟩⟩
    | succ k1 =>
      have d1 : decide (i < l.length) = true := decide_eq_true (by omega)
      have d2 : decide ((i : Int) < (l.length : Int)) = true := decide_eq_true (by omega)
      have p1 : 0 ≤ (i : Int) := by omega
      have p2 : (i : Int) < (l.length : Int) := by omega
      replace p1 := eq_true p1
      replace p2 := eq_true p2
      have hi : i < l.length := by omega
      have RR := Lib.hid (H.out.1.below hL.out.2.2)
      obtain ⟨x0, x1, x2, x3, _⟩ := four_of RR.out.blk
      obtain ⟨k0, k1_, k2⟩ := RR.out.key i hi
      obtain ⟨y0, y1, y2⟩ := RR.out.val i hi
      obtain ⟨z0, z1, z2, z3, z4, z5, z6⟩ := hL.out.2.1.cells i hi
      have f0_ := hL.out.2.1.free (i * 7)
      have f1_ := hL.out.2.1.free (i * 7 + 1)
      have f2_ := hL.out.2.1.free (i * 7 + 2)
      have f3_ := hL.out.2.1.free (i * 7 + 3)
      have f4_ := hL.out.2.1.free (i * 7 + 3 + 1)
      have f5_ := hL.out.2.1.free (i * 7 + 3 + 2)
      have ne1 : q ≠ w.heap.size := by omega
      have ne2 : bk ≠ w.heap.size := by omega
      have ne3 : bv ≠ w.heap.size := by omega
      clear hi
      go_upto_block 1 with (fail)
      go_cut [] (fun wx => RowKit.Hid (∃ L', Fill l L' (i + 1) ∧ DW w.heap.size w.heap.size l.length L' wx ∧ Below w.heap.size w wx))
      case first =>
        go_upto_region 5 with (fail)
        go_region_held3 (fun w' => w'.cell? ⟨q, 0, none⟩ = some (.slice (some ⟨bk, 0, none⟩) l.length ck) ∧ w'.cell? ⟨q, 1, none⟩ = some (.slice (some ⟨bv, 0, none⟩) l.length cv) ∧ w'.cell? ⟨bk, i * 3, none⟩ = some (.int .i64 (nd l i).f0.f0) ∧ w'.cell? ⟨bk, i * 3 + 1, none⟩ = some (.int .i64 (nd l i).f0.f1) ∧ w'.cell? ⟨bk, i * 3 + 2, none⟩ = some (.string (nd l i).f0.f2) ∧
          w'.cell? ⟨bv, i * 3, none⟩ = some (.int .i64 (nd l i).f1.f0) ∧ w'.cell? ⟨bv, i * 3 + 1, none⟩ = some (.int .i64 (nd l i).f1.f1) ∧ w'.cell? ⟨bv, i * 3 + 2, none⟩ = some (.string (nd l i).f1.f2))
          (first | with_reducible exact ⟨far3d ne1 x0, far3d ne1 x1, far3d ne2 k0, far3d ne2 k1_, far3d ne2 k2, far3d ne3 y0, far3d ne3 y1, far3d ne3 y2⟩ | with_reducible exact ⟨far3d ne1 (far3 ne1 x0), far3d ne1 (far3 ne1 x1), far3d ne2 (far3 ne2 k0), far3d ne2 (far3 ne2 k1_), far3d ne2 (far3 ne2 k2), far3d ne3 (far3 ne3 y0), far3d ne3 (far3 ne3 y1), far3d ne3 (far3 ne3 y2)⟩ | go_keep)
          (fail)
        all_goals
          go_wp2_with fail
          go_meet
          case rel =>
            have hi : i < l.length := by omega
            have hd := (hL.out.2.1.setK i hi (nd l i).f0)
            have hd2 := hd.setV i hi (nd l i).f1
            have hF := hL.out.1
            have hr : rdd (L.set i ⟨(nd l i).f0, (rdd L i).f1, (rdd L i).f2⟩) i = ⟨(nd l i).f0, (rdd L i).f1, (rdd L i).f2⟩ := by rw [rdd_set, if_pos ⟨rfl, by rw [hF.1]; exact hi⟩]
            rw [hr, List.set_set] at hd2
            have hz := (hF.2 i hi).2 (Nat.le_refl _)
            exact Lib.hid ⟨_, hF.next hi (by rw [hz]; rfl), hd2.below (Below.refl _ _).drew, (below3 (below3 hL.out.2.2 (Nat.le_refl _) _ _ _) (Nat.le_refl _) _ _ _).drew⟩
      case rest =>
        go_wp2_with fail
        go_roundg k1
        case measure => omega
        case rel => obtain ⟨L', hL'⟩ := hcut.out; exact ⟨i + 1, L', by go_num, by omega, Lib.hid hL'⟩
end Go.Proofs.Ytlmmhlabacghnaa.PH
