/- nodes: a hash part in memory; Size, Free, empty, main. -/
import Derived.Test.YtlmmhlabacghnaaPHx2
import Derived.Test.YtlmmhlabacghnaaPHx3
import Derived.Test.YtlmmhlabacghnaaHM2
import Derived.Lib.Hide
import Derived.WalkLawsBesides
import Derived.Deep.RegionWith
namespace Go.Proofs.Ytlmmhlabacghnaa.PH
open Go.RowKit Go.Proofs.YtlmmhlabacghnaaW.PrintWords Go.Proofs.YtlmmhlabacghnaaW.PrintLast Go.Proofs.YtlmmhlabacghnaaW.PrintMore
set_option linter.unusedVariables false
set_option linter.unusedSimpArgs false

/-- A hash part at block g: its nodes l in a row of its own at block a, its free pointer f. -/
structure IsP (B g a cap : Nat) (l : List S67) (f : Int) (w : World) : Prop where
  blk : w.heap[g]? = some (.cells #[.slice (some ⟨a, 0, none⟩) l.length cap, .int .i64 f] 107 (0, 0))
  row : Kd.R k67 67 w B (fun k => k = a) (.slice (some ⟨a, 0, none⟩) l.length cap) l
  ne : g ≠ a
  len : l.length ≤ 65536
theorem IsP.below {B g a cap : Nat} {l : List S67} {f : Int} {w w' : World} (h : IsP B g a cap l f w) (hb : Below w.heap.size w w') : IsP B g a cap l f w' :=
  ⟨(hb.block g (Array.getElem?_eq_some_iff.1 h.blk).1).trans h.blk, Kd.R_below h.row hb, h.ne, h.len⟩
theorem two_of {w : World} {g : Nat} {x y : Value} {t : TypeId} (h : w.heap[g]? = some (.cells #[x, y] t (0, 0))) : w.cell? ⟨g, 0, none⟩ = some x ∧ w.cell? ⟨g, 1, none⟩ = some y ∧ w.frozen? ⟨g, 0, none⟩ = false ∧ w.frozen? ⟨g, 1, none⟩ = false :=
  ⟨(blk_cell h 0).trans rfl, (blk_cell h 1).trans rfl, blk_frozen h 0, blk_frozen h 1⟩
/-- A key as a value. -/
def kv (k : S30) : Value := .agg #[.int .i64 k.f0, .int .i64 k.f1, .string k.f2]
def nv (d : S67) : Value := .agg #[.int .i64 d.f0.f0, .int .i64 d.f0.f1, .string d.f0.f2, .int .i64 d.f1.f0, .int .i64 d.f1.f1, .string d.f1.f2, .int .i64 d.f2]

set_option maxHeartbeats 1000000 in
set_option maxRecDepth 100000 in
theorem size_call {B g a cap : Nat} {l : List S67} {f : Int} {w : World} (h : IsP B g a cap l f w) :
    Calls Try.prog 59 #[.pointer (some ⟨g, 0, none⟩)] w fun e w' => e = .returned (.int .i64 l.length) ∧ w' = w := by
  obtain ⟨c0, c1, f0, f1⟩ := two_of h.blk
  clear h
  go_enter Try.func59, Try.ntmps59
  go_wp2
  go_ret
  exact ⟨rfl, rfl⟩
set_option maxHeartbeats 1000000 in
set_option maxRecDepth 100000 in
theorem size_nil (w : World) : Calls Try.prog 59 #[.pointer none] w fun e w' => e = .returned (.int .i64 0) ∧ w' = w := by
  go_enter Try.func59, Try.ntmps59
  go_wp2
  go_ret
  exact ⟨rfl, rfl⟩
set_option maxHeartbeats 1000000 in
set_option maxRecDepth 100000 in
theorem free_call {B g a cap : Nat} {l : List S67} {f : Int} {w : World} (h : IsP B g a cap l f w) :
    Calls Try.prog 46 #[.pointer (some ⟨g, 0, none⟩)] w fun e w' => e = .returned (.int .i64 f) ∧ w' = w := by
  obtain ⟨c0, c1, f0, f1⟩ := two_of h.blk
  clear h
  go_enter Try.func46, Try.ntmps46
  go_wp2
  go_ret
  exact ⟨rfl, rfl⟩
set_option maxHeartbeats 4000000 in
set_option maxRecDepth 100000 in
theorem main_call {B g a cap : Nat} {l : List S67} {f : Int} {w : World} (h : IsP B g a cap l f w) (k : S30) (m e : Int) (hm : hash_Main.f k.f0 k.f1 k.f2 l.length = some (m, e)) (h0 : 0 < l.length) :
    Calls Try.prog 82 #[.pointer (some ⟨g, 0, none⟩), kv k] w fun r w' => r = .returned (.tuple #[.int .i64 m, .bool (e == 0)]) ∧ Below w.heap.size w w' := by
  unfold kv
  obtain ⟨c0, c1, f0, f1⟩ := two_of h.blk
  have H := Lib.hid h
  clear h
  have d0 : decide ((l.length : Int) = 0) = false := decide_eq_false (by omega)
  have d1 : ((l.length : Int) == 0) = false := beq_eq_false_iff_ne.2 (by omega)
  go_enter Try.func82, Try.ntmps82
  go_wp2_with fail
  have H1 := Lib.hid (H.out.below ((Below.refl w.heap.size w).alloc (Nat.le_refl _) (.cells #[.int .i64 k.f0, .int .i64 k.f1, .string k.f2] 30)))
  refine (size_call H1.out).mono ?_
  rintro e1 w1 ⟨rfl, rfl⟩
  obtain ⟨x0, x1, y0, y1⟩ := two_of H1.out.blk
  have hmx : Try.prog.follows .mixedOrders = true := by kernel_rfl
  go_wp2_with fail
  go_region_with (go_at_call 27; refine (hash_Main.calls _ _ _ _ m e _ hm).mono ?_; rintro r w2 ⟨rfl, hb2⟩)
  all_goals
    have hbb := (((Below.refl w.heap.size w).alloc (Nat.le_refl _) (.cells #[.int .i64 k.f0, .int .i64 k.f1, .string k.f2] 30)).drew).trans (hb2.mono (by simp [World.drew]))
    clear hb2
    go_wp2_with fail
    go_ret2
    exact ⟨rfl, hbb⟩
set_option maxHeartbeats 1000000 in
set_option maxRecDepth 100000 in
theorem main_none {B g a cap : Nat} {l : List S67} {f : Int} {w : World} (h : IsP B g a cap l f w) (k : S30) (h0 : l.length = 0) :
    Calls Try.prog 82 #[.pointer (some ⟨g, 0, none⟩), kv k] w fun r w' => r = .returned (.tuple #[.int .i64 0, .bool false]) ∧ Below w.heap.size w w' := by
  unfold kv
  have H := Lib.hid h
  clear h
  have d0 : decide ((l.length : Int) = 0) = true := decide_eq_true (by omega)
  have d1 : ((l.length : Int) == 0) = true := beq_iff_eq.2 (by omega)
  go_enter Try.func82, Try.ntmps82
  go_wp2_with fail
  have H1 := Lib.hid (H.out.below ((Below.refl w.heap.size w).alloc (Nat.le_refl _) (.cells #[.int .i64 k.f0, .int .i64 k.f1, .string k.f2] 30)))
  refine (size_call H1.out).mono ?_
  rintro e1 w1 ⟨rfl, rfl⟩
  go_wp2_with fail
  go_ret2
  exact ⟨rfl, (Below.refl w.heap.size w).alloc (Nat.le_refl _) _⟩
end Go.Proofs.Ytlmmhlabacghnaa.PH
