import Derived.Test.YtlmmhlabacghnaaPHx2
import Derived.Test.YtlmmhlabacghnaaPHx3
import Derived.Test.YtlmmhlabacghnaaHM2
import Derived.Lib.Hide
import Derived.WalkLawsBesides
import Derived.Deep.RegionWith
import Derived.Deep.LoopGhost
import Derived.StillTailTactics
/- nodes: a hash part in memory; Size, Free, empty, main. -/
namespace Go.Proofs.Ytlmmhlabacghnaa.PH
open Go.RowKit Go.Proofs.YtlmmhlabacghnaaW.PrintWords Go.Proofs.YtlmmhlabacghnaaW.PrintLast Go.Proofs.YtlmmhlabacghnaaW.PrintMore
set_option linter.unusedVariables false
set_option linter.unusedSimpArgs false

/-- A hash part at block g: its nodes l in a row of its own at block a, its free pointer f. -/
structure IsP (B g a cap : Nat) (l : List S67) (f : Int) (w : World) : Prop where
  blk : w.heap[g]? = some (.cells #[.slice (some ⟨a, 0, none⟩) l.length cap, .int .i64 f] 107 (0, 0))
  row : Kd.R k67 67 w B (fun k => k = a) (.slice (some ⟨a, 0, none⟩) l.length cap) l
  ne : g ≠ a
  len : l.length ≤ 65536
theorem IsP.below {B g a cap : Nat} {l : List S67} {f : Int} {w w' : World} (h : IsP B g a cap l f w) (hb : Below w.heap.size w w') : IsP B g a cap l f w' :=
  ⟨(hb.block g (Array.getElem?_eq_some_iff.1 h.blk).1).trans h.blk, Kd.R_below h.row hb, h.ne, h.len⟩
theorem two_of {w : World} {g : Nat} {x y : Value} {t : TypeId} (h : w.heap[g]? = some (.cells #[x, y] t (0, 0))) : w.cell? ⟨g, 0, none⟩ = some x ∧ w.cell? ⟨g, 1, none⟩ = some y ∧ w.frozen? ⟨g, 0, none⟩ = false ∧ w.frozen? ⟨g, 1, none⟩ = false :=
  ⟨(blk_cell h 0).trans rfl, (blk_cell h 1).trans rfl, blk_frozen h 0, blk_frozen h 1⟩
/-- A key as a value. -/
def kv (k : S30) : Value := .agg #[.int .i64 k.f0, .int .i64 k.f1, .string k.f2]
def nv (d : S67) : Value := .agg #[.int .i64 d.f0.f0, .int .i64 d.f0.f1, .string d.f0.f2, .int .i64 d.f1.f0, .int .i64 d.f1.f1, .string d.f1.f2, .int .i64 d.f2]

set_option maxHeartbeats 1000000 in
set_option maxRecDepth 100000 in
theorem size_call {B g a cap : Nat} {l : List S67} {f : Int} {w : World} (h : IsP B g a cap l f w) :
    Calls Try.prog 59 #[.pointer (some ⟨g, 0, none⟩)] w fun e w' => e = .returned (.int .i64 l.length) ∧ w' = w := by
  obtain ⟨c0, c1, f0, f1⟩ := two_of h.blk
  clear h
  go_enter Try.func59, Try.ntmps59
  go_wp2
  go_ret
  exact ⟨rfl, rfl⟩
set_option maxHeartbeats 1000000 in
set_option maxRecDepth 100000 in
theorem size_nil (w : World) : Calls Try.prog 59 #[.pointer none] w fun e w' => e = .returned (.int .i64 0) ∧ w' = w := by
  go_enter Try.func59, Try.ntmps59
  go_wp2
  go_ret
  exact ⟨rfl, rfl⟩
set_option maxHeartbeats 1000000 in
set_option maxRecDepth 100000 in
theorem free_call {B g a cap : Nat} {l : List S67} {f : Int} {w : World} (h : IsP B g a cap l f w) :
    Calls Try.prog 46 #[.pointer (some ⟨g, 0, none⟩)] w fun e w' => e = .returned (.int .i64 f) ∧ w' = w := by
  obtain ⟨c0, c1, f0, f1⟩ := two_of h.blk
  clear h
  go_enter Try.func46, Try.ntmps46
  go_wp2
  go_ret
  exact ⟨rfl, rfl⟩
set_option maxHeartbeats 4000000 in
set_option maxRecDepth 100000 in
theorem main_call {B g a cap : Nat} {l : List S67} {f : Int} {w : World} (h : IsP B g a cap l f w) (k : S30) (m e : Int) (hm : hash_Main.f k.f0 k.f1 k.f2 l.length = some (m, e)) (h0 : 0 < l.length) :
    Calls Try.prog 82 #[.pointer (some ⟨g, 0, none⟩), kv k] w fun r w' => r = .returned (.tuple #[.int .i64 m, .bool (e == 0)]) ∧ Below w.heap.size w w' := by
  unfold kv
  obtain ⟨c0, c1, f0, f1⟩ := two_of h.blk
  have H := Lib.hid h
  clear h
  have d0 : decide ((l.length : Int) = 0) = false := decide_eq_false (by omega)
  have d1 : ((l.length : Int) == 0) = false := beq_eq_false_iff_ne.2 (by omega)
  go_enter Try.func82, Try.ntmps82
  go_wp2_with fail
  have H1 := Lib.hid (H.out.below ((Below.refl w.heap.size w).alloc (Nat.le_refl _) (.cells #[.int .i64 k.f0, .int .i64 k.f1, .string k.f2] 30)))
  refine (size_call H1.out).mono ?_
  rintro e1 w1 ⟨rfl, rfl⟩
  obtain ⟨x0, x1, y0, y1⟩ := two_of H1.out.blk
  have hmx : Try.prog.follows .mixedOrders = true := by kernel_rfl
  go_wp2_with fail
  go_region_with (go_at_call 27; refine (hash_Main.calls _ _ _ _ m e _ hm).mono ?_; rintro r w2 ⟨rfl, hb2⟩)
  all_goals
    have hbb := (((Below.refl w.heap.size w).alloc (Nat.le_refl _) (.cells #[.int .i64 k.f0, .int .i64 k.f1, .string k.f2] 30)).drew).trans (hb2.mono (by simp [World.drew]))
    clear hb2
    go_wp2_with fail
    go_ret2
    exact ⟨rfl, hbb⟩
set_option maxHeartbeats 1000000 in
set_option maxRecDepth 100000 in
theorem main_none {B g a cap : Nat} {l : List S67} {f : Int} {w : World} (h : IsP B g a cap l f w) (k : S30) (h0 : l.length = 0) :
    Calls Try.prog 82 #[.pointer (some ⟨g, 0, none⟩), kv k] w fun r w' => r = .returned (.tuple #[.int .i64 0, .bool false]) ∧ Below w.heap.size w w' := by
  unfold kv
  have H := Lib.hid h
  clear h
  have d0 : decide ((l.length : Int) = 0) = true := decide_eq_true (by omega)
  have d1 : ((l.length : Int) == 0) = true := beq_iff_eq.2 (by omega)
  go_enter Try.func82, Try.ntmps82
  go_wp2_with fail
  have H1 := Lib.hid (H.out.below ((Below.refl w.heap.size w).alloc (Nat.le_refl _) (.cells #[.int .i64 k.f0, .int .i64 k.f1, .string k.f2] 30)))
  refine (size_call H1.out).mono ?_
  rintro e1 w1 ⟨rfl, rfl⟩
  go_wp2_with fail
  go_ret2
  exact ⟨rfl, (Below.refl w.heap.size w).alloc (Nat.le_refl _) _⟩
end Go.Proofs.Ytlmmhlabacghnaa.PH
/- nodes: Find. -/
namespace Go.Proofs.Ytlmmhlabacghnaa.PH
open Go.RowKit Go.Proofs.YtlmmhlabacghnaaW.PrintWords Go.Proofs.YtlmmhlabacghnaaW.PrintLast Go.Proofs.YtlmmhlabacghnaaW.PrintMore
set_option linter.unusedVariables false
set_option linter.unusedSimpArgs false

def nd (l : List S67) (i : Nat) : S67 := l.getD i z67
/-- Is it the same key? -/
def eqk (x y : S30) : Bool := x.f0 == y.f0 && (x.f1 == y.f1 && x.f2.toList == y.f2.toList)
/-- Along the links from a node on: where the key is, and how many nodes were read. -/
def findL (l : List S67) (k : S30) : Nat → Nat → Int → Option (Int × Int)
  | 0, _, _ => none
  | f + 1, i, r => if i < l.length then (if eqk (nd l i).f0 k = true then some ((i : Int), r) else if (nd l i).f2 = 0 then some (-1, r) else if 0 ≤ (i : Int) + (nd l i).f2 ∧ (i : Int) + (nd l i).f2 ≤ 65536 ∧ r ≤ 4611686018427387904 then findL l k f ((i : Int) + (nd l i).f2).toNat (r + 1) else none) else none
theorem IsP.at {B g a cap : Nat} {l : List S67} {f : Int} {w : World} (h : IsP B g a cap l f w) (i : Nat) (hi : i < l.length) :
    w.cell? ⟨a, i * 7, none⟩ = some (.int .i64 (nd l i).f0.f0) ∧ w.cell? ⟨a, i * 7 + 1, none⟩ = some (.int .i64 (nd l i).f0.f1) ∧ w.cell? ⟨a, i * 7 + 2, none⟩ = some (.string (nd l i).f0.f2) ∧ w.cell? ⟨a, i * 7 + 3, none⟩ = some (.int .i64 (nd l i).f1.f0) ∧ w.cell? ⟨a, i * 7 + 4, none⟩ = some (.int .i64 (nd l i).f1.f1) ∧ w.cell? ⟨a, i * 7 + 5, none⟩ = some (.string (nd l i).f1.f2) ∧ w.cell? ⟨a, i * 7 + 6, none⟩ = some (.int .i64 (nd l i).f2) := by
  obtain ⟨c, hcl, hM, hc, hfz⟩ := Kd.R_elem h.row z67 (i : Int) (by omega) (by omega)
  rw [Int.toNat_natCast] at hM hc
  obtain rfl := k67_openM hM
  exact ⟨hc 0 _ rfl, hc 1 _ rfl, hc 2 _ rfl, hc 3 _ rfl, hc 4 _ rfl, hc 5 _ rfl, hc 6 _ rfl⟩

theorem toList_data (x : ByteArray) : x.toList = x.data.toList := by
  first | exact ByteArray.toList_eq x | simp
theorem eqk_true {x y : S30} (h : eqk x y = true) : x = y := by
  obtain ⟨a, b, c⟩ := x
  obtain ⟨d, e, f⟩ := y
  simp only [eqk, Bool.and_eq_true, beq_iff_eq, toList_data] at h
  obtain ⟨rfl, rfl, h2⟩ := h
  obtain rfl : c = f := by
    obtain ⟨⟨c⟩⟩ := c
    obtain ⟨⟨f⟩⟩ := f
    obtain rfl : c = f := h2
    rfl
  rfl
theorem eqk_false {x y : S30} (h : eqk x y = false) : ¬ x.f0 = y.f0 ∨ (x.f0 = y.f0 ∧ ¬ x.f1 = y.f1) ∨ (x.f0 = y.f0 ∧ x.f1 = y.f1 ∧ (x.f2.toList == y.f2.toList) = false) := by
  unfold eqk at h
  by_cases h0 : x.f0 = y.f0
  · by_cases h1 : x.f1 = y.f1
    · rw [beq_iff_eq.2 h0, beq_iff_eq.2 h1, Bool.true_and, Bool.true_and] at h
      exact .inr (.inr ⟨h0, h1, h⟩)
    · exact .inr (.inl ⟨h0, h1⟩)
  · exact .inl h0
theorem alloc_cell {w : World} {p : Addr} {v : Value} (h : w.cell? p = some v) (o : Obj) : (w.alloc o).cell? p = some v :=
  ((((Below.refl w.heap.size w).alloc (Nat.le_refl _) o)).cell (World.block_lt_of_cell? w _ h)).trans h
theorem three_of {w : World} {g : Nat} {x y z : Value} {t : TypeId} (h : w.heap[g]? = some (.cells #[x, y, z] t (0, 0))) : w.cell? ⟨g, 0, none⟩ = some x ∧ w.cell? ⟨g, 1, none⟩ = some y ∧ w.cell? ⟨g, 2, none⟩ = some z :=
  ⟨(blk_cell h 0).trans rfl, (blk_cell h 1).trans rfl, (blk_cell h 2).trans rfl⟩
set_option maxHeartbeats 4000000 in
set_option maxRecDepth 100000 in
theorem find_call {B g a cap : Nat} {l : List S67} {f : Int} {w : World} (h : IsP B g a cap l f w) (k : S30) (m : Nat) (hm : hash_Main.f k.f0 k.f1 k.f2 l.length = some ((m : Int), 0)) (h0 : 0 < l.length) (n : Nat) (at_ r : Int) (hf : findL l k n m 1 = some (at_, r)) :
    Calls Try.prog 53 #[.pointer (some ⟨g, 0, none⟩), kv k] w fun e w' => e = .returned (.tuple #[.int .i64 at_, .int .i64 r]) ∧ Below w.heap.size w w' := by
  unfold kv
  have H := Lib.hid h
  have HF := Lib.hid (And.intro hm hf)
  clear h hm hf
  go_enter Try.func53, Try.ntmps53
  go_wp2_with fail
  obtain ⟨w1, hw1, hb1, hk1, hs1⟩ : ∃ w1, w.alloc (.cells #[.int .i64 k.f0, .int .i64 k.f1, .string k.f2] 30) = w1 ∧ Below w.heap.size w w1 ∧ w1.heap[w.heap.size]? = some (.cells #[.int .i64 k.f0, .int .i64 k.f1, .string k.f2] 30 (0, 0)) ∧ w1.heap.size = w.heap.size + 1 :=
    ⟨_, rfl, (Below.refl _ _).alloc (Nat.le_refl _) _, heap_alloc_new _ _, by simp⟩
  rw [hw1]
  have H1 := Lib.hid (H.out.below hb1)
  have hx := main_call H1.out k m 0 HF.out.1 h0
  unfold kv at hx
  refine hx.mono ?_
  rintro e w2 ⟨rfl, hb2⟩
  have H2 := Lib.hid (H1.out.below hb2)
  have K2 := Lib.hid ((hb2.block w.heap.size (by omega)).trans hk1)
  have B2 := Lib.hid (hb1.trans (hb2.mono (by omega)))
  have S2 : w.heap.size + 1 ≤ w2.heap.size := by have := hb2.size; omega
  clear hx hw1 hb1 hk1 hs1 hb2 H1
  simp only [beq_self_eq_true]
  go_wp2_with fail
  go_loopg [6, 8] n (fun kq v6 v8 wr => ∃ (i : Nat) (q : Int), v6 = .int .i64 i ∧ v8 = .int .i64 q ∧ 0 ≤ q ∧ RowKit.Hid (findL l k kq i q = some (at_, r)) ∧ RowKit.Hid (IsP B g a cap l f wr) ∧ RowKit.Hid (wr.heap[w.heap.size]? = some (.cells #[.int .i64 k.f0, .int .i64 k.f1, .string k.f2] 30 (0, 0))) ∧ RowKit.Hid (Below w.heap.size w wr) ∧ w.heap.size + 1 ≤ wr.heap.size)
  case atStart => exact ⟨m, 1, rfl, rfl, by omega, Lib.hid HF.out.2, H2, K2, B2, S2⟩
  case round =>
    obtain ⟨i, q, rfl, rfl, hq0, hfi, hI, hK, hB, hS⟩ := hrel
    cases gk with
    | zero => exact absurd hfi.out (by simp [findL])
    | succ k1 =>
      have hfi2 := hfi.out
      simp only [findL] at hfi2
      by_cases hi : i < l.length
      · rw [if_pos hi] at hfi2
        obtain ⟨x0, x1, y0, y1⟩ := two_of hI.out.blk
        obtain ⟨e0, e1, e2, e3, e4, e5, e6⟩ := hI.out.at i hi
        obtain ⟨z0, z1, z2⟩ := three_of hK.out
        have za := alloc_cell z0 (.cells #[.int .i64 (nd l i).f0.f0, .int .i64 (nd l i).f0.f1, .string (nd l i).f0.f2, .int .i64 (nd l i).f1.f0, .int .i64 (nd l i).f1.f1, .string (nd l i).f1.f2, .int .i64 (nd l i).f2] 67)
        have zb := alloc_cell z1 (.cells #[.int .i64 (nd l i).f0.f0, .int .i64 (nd l i).f0.f1, .string (nd l i).f0.f2, .int .i64 (nd l i).f1.f0, .int .i64 (nd l i).f1.f1, .string (nd l i).f1.f2, .int .i64 (nd l i).f2] 67)
        have zc := alloc_cell z2 (.cells #[.int .i64 (nd l i).f0.f0, .int .i64 (nd l i).f0.f1, .string (nd l i).f0.f2, .int .i64 (nd l i).f1.f0, .int .i64 (nd l i).f1.f1, .string (nd l i).f1.f2, .int .i64 (nd l i).f2] 67)
        have p1 : 0 ≤ (i : Int) := by omega
        have p2 : (i : Int) < (l.length : Int) := by omega
        replace p1 := eq_true p1
        replace p2 := eq_true p2
        have hsz : i ≤ 65536 := by have := H.out.len; omega
        have F2 := Lib.hid hfi2
        clear hfi2 hfi HF H2 K2 B2 hi
        by_cases he : eqk (nd l i).f0 k = true
        · have hk : (nd l i).f0 = k := eqk_true he
          rw [if_pos he] at F2
          rw [hk] at e0 e1 e2 za zb zc
          clear he
          go_wp2_with fail
          go_ret2
          have F3 := F2.out
          cases F3
          exact ⟨rfl, hB.out.trans (((Below.refl wr.heap.size wr).alloc (Nat.le_refl _) _).mono (by omega))⟩
        · have he' : eqk (nd l i).f0 k = false := by simpa using he
          rw [if_neg he] at F2
          rcases eqk_false he' with q0 | ⟨q0, q1⟩ | ⟨q0, q1, q2⟩
          all_goals (first | (have b0 := beq_eq_false_iff_ne.2 q0; have d0 := decide_eq_false q0; have u0 := eq_false q0) | (rw [q0] at e0 za zb zc))
          all_goals (try (first | (have b1 := beq_eq_false_iff_ne.2 q1; have d1 := decide_eq_false q1; have u1 := eq_false q1) | (rw [q1] at e1 za zb zc)))
          all_goals (try (have d2 := decide_eq_false (beq_eq_false_iff_ne.1 q2)))
          all_goals
            by_cases hz : (nd l i).f2 = 0
            · rw [if_pos hz] at F2
              rw [hz] at e6 za zb zc
              clear he he' hz
              go_wp2_with fail
              go_ret2
              have F3 := F2.out
              cases F3
              exact ⟨rfl, hB.out.trans (((Below.refl wr.heap.size wr).alloc (Nat.le_refl _) _).mono (by omega))⟩
            · rw [if_neg hz] at F2
              have hzb : ((nd l i).f2 == 0) = false := beq_eq_false_iff_ne.2 hz
              have F3 := F2.out
              split at F3
              case isFalse => cases F3
              case isTrue hb =>
              obtain ⟨hb1, hb2, hb3⟩ := hb
              have F4 := Lib.hid (And.intro F3 (And.intro hb1 (And.intro hb2 hb3)))
              have q9 : IntKind.i64.wrap ((i : Int) + (nd l i).f2) = (i : Int) + (nd l i).f2 := IntWalk.i64_in _ (by omega)
              have QQ := Lib.hid hq0
              clear F3 F2 he he'
              go_wp2_with fail
              go_roundg k1
              case measure => omega
              case rel =>
                obtain ⟨hfl, hc1, hc2, hc3⟩ := F4.out
                refine ⟨((i : Int) + (nd l i).f2).toNat, q + 1, ?_, ?_, by have := QQ.out; omega, Lib.hid hfl, Lib.hid (hI.out.below ((Below.refl wr.heap.size wr).alloc (Nat.le_refl _) _)), Lib.hid ((Below.heap_alloc _ _ _ (by omega)).trans hK.out), Lib.hid (hB.out.alloc (by omega) _), by simp; omega⟩
                · exact congrArg (Value.int .i64) (by omega)
                · exact congrArg (Value.int .i64) (by have := QQ.out; first | rfl | (unfold wrap64; omega))
      · rw [if_neg hi] at hfi2
        cases hfi2
end Go.Proofs.Ytlmmhlabacghnaa.PH
/- nodes: link. -/
namespace Go.Proofs.Ytlmmhlabacghnaa.PH
open Go.RowKit Go.Proofs.YtlmmhlabacghnaaW.PrintWords Go.Proofs.YtlmmhlabacghnaaW.PrintLast Go.Proofs.YtlmmhlabacghnaaW.PrintMore
set_option linter.unusedVariables false
set_option linter.unusedSimpArgs false

/-- Below the heap's size all blocks but those in c are as they were. -/
structure Fr (c : Nat → Prop) (w w' : World) : Prop where
  os : w'.os = w.os
  tape : w'.tape = w.tape
  output : w'.output = w.output
  size : w.heap.size ≤ w'.heap.size
  block : ∀ k, k < w.heap.size → ¬ c k → w'.heap[k]? = w.heap[k]?
theorem Fr.refl (c : Nat → Prop) (w : World) : Fr c w w := ⟨rfl, rfl, rfl, Nat.le_refl _, fun _ _ _ => rfl⟩
theorem Fr.of_below {c : Nat → Prop} {w w' : World} (h : Below w.heap.size w w') : Fr c w w' := ⟨h.os, h.tape, h.output, h.size, fun k hk _ => h.block k hk⟩
theorem Fr.trans {c : Nat → Prop} {x y z : World} (h : Fr c x y) (k : Fr c y z) : Fr c x z :=
  ⟨k.os.trans h.os, k.tape.trans h.tape, k.output.trans h.output, Nat.le_trans h.size k.size, fun i hi hc => (k.block i (Nat.lt_of_lt_of_le hi h.size) hc).trans (h.block i hi hc)⟩
theorem Fr.imp {c c' : Nat → Prop} {w w' : World} (h : Fr c w w') (hc : ∀ k, c k → c' k) : Fr c' w w' := ⟨h.os, h.tape, h.output, h.size, fun k hk hn => h.block k hk (fun hk' => hn (hc k hk'))⟩
theorem seven_of {w : World} {g : Nat} {a b c d e f h : Value} {t : TypeId} (hk : w.heap[g]? = some (.cells #[a, b, c, d, e, f, h] t (0, 0))) : w.cell? ⟨g, 0, none⟩ = some a ∧ w.cell? ⟨g, 1, none⟩ = some b ∧ w.cell? ⟨g, 2, none⟩ = some c ∧ w.cell? ⟨g, 3, none⟩ = some d ∧ w.cell? ⟨g, 4, none⟩ = some e ∧ w.cell? ⟨g, 5, none⟩ = some f ∧ w.cell? ⟨g, 6, none⟩ = some h :=
  ⟨(blk_cell hk 0).trans rfl, (blk_cell hk 1).trans rfl, (blk_cell hk 2).trans rfl, (blk_cell hk 3).trans rfl, (blk_cell hk 4).trans rfl, (blk_cell hk 5).trans rfl, (blk_cell hk 6).trans rfl⟩
/-- The cells of a node. -/
def ncells (d : S67) : List Value := [.int .i64 d.f0.f0, .int .i64 d.f0.f1, .string d.f0.f2, .int .i64 d.f1.f0, .int .i64 d.f1.f1, .string d.f1.f2, .int .i64 d.f2]
theorem infoNode : (Try.prog.info? 67).map (·.size) = some 7 := by kernel_rfl

set_option maxHeartbeats 4000000 in
set_option maxRecDepth 100000 in
theorem link_call {B g a cap : Nat} {l : List S67} {f : Int} {w : World} (h : IsP B g a cap l f w) (hB : B ≤ w.heap.size) (i : Nat) (hi : i < l.length) (n like : S67) (m : Nat) (hm : m ≤ 65536) (hl : -65536 ≤ like.f2 ∧ like.f2 ≤ 65536) :
    Calls Try.prog 90 #[.pointer (some ⟨g, 0, none⟩), .int .i64 i, nv n, nv like, .int .i64 m] w fun e w' => e = .returned (.tuple #[]) ∧ IsP B g a cap (l.set i ⟨n.f0, n.f1, if like.f2 = 0 then 0 else (m : Int) + like.f2 - i⟩) f w' ∧ Fr (fun k => k = a) w w' := by
  unfold nv
  have H := Lib.hid h
  have HB := Lib.hid (And.intro hB (And.intro hi hl))
  have hlen := h.len
  clear h hB hl
  by_cases hz : like.f2 = 0
  · rw [if_pos hz, hz]
    go_enter Try.func90, Try.ntmps90
    go_wp2_with fail
    obtain ⟨w2, hw2, hb2, hn2, hs2⟩ : ∃ w2, (w.alloc (.cells #[.int .i64 n.f0.f0, .int .i64 n.f0.f1, .string n.f0.f2, .int .i64 n.f1.f0, .int .i64 n.f1.f1, .string n.f1.f2, .int .i64 (0)] 67)).alloc (.cells #[.int .i64 like.f0.f0, .int .i64 like.f0.f1, .string like.f0.f2, .int .i64 like.f1.f0, .int .i64 like.f1.f1, .string like.f1.f2, .int .i64 0] 67) = w2 ∧ Below w.heap.size w w2 ∧
        w2.heap[w.heap.size]? = some (.cells #[.int .i64 n.f0.f0, .int .i64 n.f0.f1, .string n.f0.f2, .int .i64 n.f1.f0, .int .i64 n.f1.f1, .string n.f1.f2, .int .i64 (0)] 67 (0, 0)) ∧ w2.heap.size = w.heap.size + 2 :=
      ⟨_, rfl, ((Below.refl _ _).alloc (Nat.le_refl _) _).alloc (by simp) _, (Below.heap_alloc _ _ _ (by simp)).trans (heap_alloc_new _ _), by simp⟩
    rw [hw2]
    have I2 := H.out.below hb2
    obtain ⟨x0, x1, y0, y1⟩ := two_of I2.blk
    obtain ⟨n0, n1, n2, n3, n4, n5, n6⟩ := seven_of hn2
    have p1 : 0 ≤ (i : Int) := by omega
    have p2 : (i : Int) < (l.length : Int) := by omega
    replace p1 := eq_true p1
    replace p2 := eq_true p2
    have P := Lib.hid (And.intro I2 (And.intro hb2 hs2))
    clear I2 hb2 hs2 hn2 hw2
    have hmx : Try.prog.follows .mixedOrders = true := by kernel_rfl
    go_still_tail 7, (by kernel_rfl)
    change wpList _ _ _ _ _ w2.drew
    refine Kd.R_store k67 (w0 := w) (W := w2.drew) B rfl rfl 67 (.tmp 27) (.tmp 26) rfl 67 (i : Int) 0 l ⟨n.f0, n.f1, 0⟩ (nv ⟨n.f0, n.f1, 0⟩) (ncells ⟨n.f0, n.f1, 0⟩) (ncells (nd l i)) (fun k => k = a) (fun _ => False) rfl (by rw [Int.toNat_natCast]; rfl) rfl rfl infoNode (by intro q hq; simp [ncells] at hq; rcases hq with rfl | rfl | rfl | rfl | rfl | rfl | rfl <;> rfl) (Kd.R_drew P.out.1.row) (by omega) (by omega) rfl ?cc (show 0 + 7 ≤ 7 by decide) ?M (fun _ hk => hk.elim) ?HB ?_
    case cc =>
      obtain ⟨c0, c1, c2, c3, c4, c5, c6⟩ := P.out.1.at i hi
      intro j u hu
      rw [Int.toNat_natCast]
      match j, hu with
      | 0, hu => cases hu; exact c0
      | 1, hu => cases hu; exact c1
      | 2, hu => cases hu; exact c2
      | 3, hu => cases hu; exact c3
      | 4, hu => cases hu; exact c4
      | 5, hu => cases hu; exact c5
      | 6, hu => cases hu; exact c6
      | j + 7, hu => simp [ncells] at hu
    case M => exact k67_mkM _ _ _ _
    case HB => exact (P.out.2.1.mono HB.out.1).drew
    intro w3 hR3 hb3 hg3
    obtain ⟨I2, hb2, hs2⟩ := P.out
    have hgl := (Array.getElem?_eq_some_iff.1 I2.blk).1
    have hI3 : IsP B g a cap (l.set i ⟨n.f0, n.f1, 0⟩) f w3 := by
      rw [Int.toNat_natCast] at hR3
      refine ⟨?_, ?_, I2.ne, by rw [List.length_set]; exact I2.len⟩
      · rw [List.length_set]
        exact (hg3.block g hgl (fun e => I2.ne (by cases e; rfl))).trans I2.blk
      · rw [List.length_set]
        exact hR3
    have hF3 : Fr (fun k => k = a) w w3 := (Fr.of_below hb2).trans ⟨hg3.os, hg3.tape, hg3.output, hg3.size, fun k hk hka => hg3.block k hk (fun e => hka (by cases e; rfl))⟩
    have Q := Lib.hid (And.intro hI3 hF3)
    clear hR3 hb3 hg3 hI3 hF3 I2 hb2 hs2 P H HB hgl
    go_wp2_with fail
    go_end0
    exact ⟨rfl, Q.out⟩
  · rw [if_neg hz]
    have hzb : (like.f2 == 0) = false := beq_eq_false_iff_ne.2 hz
    have hzn : (like.f2 != 0) = true := bne_iff_ne.2 hz
    have w1_ : IntKind.i64.wrap ((m : Int) + like.f2) = (m : Int) + like.f2 := IntWalk.i64_in _ (by have := HB.out; omega)
    have w2_ : IntKind.i64.wrap ((m : Int) + like.f2 - i) = (m : Int) + like.f2 - i := IntWalk.i64_in _ (by have := HB.out; omega)
    have r1_ : -9223372036854775808 ≤ (m : Int) + like.f2 - i ∧ (m : Int) + like.f2 - i ≤ 9223372036854775807 := by have := HB.out; omega
    have r2_ : -9223372036854775808 ≤ (m : Int) + like.f2 ∧ (m : Int) + like.f2 ≤ 9223372036854775807 := by have := HB.out; omega
    go_enter Try.func90, Try.ntmps90
    go_wp2_with fail
    obtain ⟨w2, hw2, hb2, hn2, hs2⟩ : ∃ w2, (w.alloc (.cells #[.int .i64 n.f0.f0, .int .i64 n.f0.f1, .string n.f0.f2, .int .i64 n.f1.f0, .int .i64 n.f1.f1, .string n.f1.f2, .int .i64 ((m : Int) + like.f2 - i)] 67)).alloc (.cells #[.int .i64 like.f0.f0, .int .i64 like.f0.f1, .string like.f0.f2, .int .i64 like.f1.f0, .int .i64 like.f1.f1, .string like.f1.f2, .int .i64 like.f2] 67) = w2 ∧ Below w.heap.size w w2 ∧
        w2.heap[w.heap.size]? = some (.cells #[.int .i64 n.f0.f0, .int .i64 n.f0.f1, .string n.f0.f2, .int .i64 n.f1.f0, .int .i64 n.f1.f1, .string n.f1.f2, .int .i64 ((m : Int) + like.f2 - i)] 67 (0, 0)) ∧ w2.heap.size = w.heap.size + 2 :=
      ⟨_, rfl, ((Below.refl _ _).alloc (Nat.le_refl _) _).alloc (by simp) _, (Below.heap_alloc _ _ _ (by simp)).trans (heap_alloc_new _ _), by simp⟩
    rw [hw2]
    have I2 := H.out.below hb2
    obtain ⟨x0, x1, y0, y1⟩ := two_of I2.blk
    obtain ⟨n0, n1, n2, n3, n4, n5, n6⟩ := seven_of hn2
    have p1 : 0 ≤ (i : Int) := by omega
    have p2 : (i : Int) < (l.length : Int) := by omega
    replace p1 := eq_true p1
    replace p2 := eq_true p2
    have P := Lib.hid (And.intro I2 (And.intro hb2 hs2))
    clear I2 hb2 hs2 hn2 hw2
    have hmx : Try.prog.follows .mixedOrders = true := by kernel_rfl
    go_still_tail 7, (by kernel_rfl)
    change wpList _ _ _ _ _ w2.drew
    refine Kd.R_store k67 (w0 := w) (W := w2.drew) B rfl rfl 67 (.tmp 27) (.tmp 26) rfl 67 (i : Int) 0 l ⟨n.f0, n.f1, (m : Int) + like.f2 - i⟩ (nv ⟨n.f0, n.f1, (m : Int) + like.f2 - i⟩) (ncells ⟨n.f0, n.f1, (m : Int) + like.f2 - i⟩) (ncells (nd l i)) (fun k => k = a) (fun _ => False) rfl (by rw [Int.toNat_natCast]; rfl) rfl rfl infoNode (by intro q hq; simp [ncells] at hq; rcases hq with rfl | rfl | rfl | rfl | rfl | rfl | rfl <;> rfl) (Kd.R_drew P.out.1.row) (by omega) (by omega) rfl ?cc (show 0 + 7 ≤ 7 by decide) ?M (fun _ hk => hk.elim) ?HB ?_
    case cc =>
      obtain ⟨c0, c1, c2, c3, c4, c5, c6⟩ := P.out.1.at i hi
      intro j u hu
      rw [Int.toNat_natCast]
      match j, hu with
      | 0, hu => cases hu; exact c0
      | 1, hu => cases hu; exact c1
      | 2, hu => cases hu; exact c2
      | 3, hu => cases hu; exact c3
      | 4, hu => cases hu; exact c4
      | 5, hu => cases hu; exact c5
      | 6, hu => cases hu; exact c6
      | j + 7, hu => simp [ncells] at hu
    case M => exact k67_mkM _ _ _ _
    case HB => exact (P.out.2.1.mono HB.out.1).drew
    intro w3 hR3 hb3 hg3
    obtain ⟨I2, hb2, hs2⟩ := P.out
    have hgl := (Array.getElem?_eq_some_iff.1 I2.blk).1
    have hI3 : IsP B g a cap (l.set i ⟨n.f0, n.f1, (m : Int) + like.f2 - i⟩) f w3 := by
      rw [Int.toNat_natCast] at hR3
      refine ⟨?_, ?_, I2.ne, by rw [List.length_set]; exact I2.len⟩
      · rw [List.length_set]
        exact (hg3.block g hgl (fun e => I2.ne (by cases e; rfl))).trans I2.blk
      · rw [List.length_set]
        exact hR3
    have hF3 : Fr (fun k => k = a) w w3 := (Fr.of_below hb2).trans ⟨hg3.os, hg3.tape, hg3.output, hg3.size, fun k hk hka => hg3.block k hk (fun e => hka (by cases e; rfl))⟩
    have Q := Lib.hid (And.intro hI3 hF3)
    clear hR3 hb3 hg3 hI3 hF3 I2 hb2 hs2 P H HB hgl
    go_wp2_with fail
    go_end0
    exact ⟨rfl, Q.out⟩
end Go.Proofs.Ytlmmhlabacghnaa.PH
/- nodes: room. -/
namespace Go.Proofs.Ytlmmhlabacghnaa.PH
open Go.RowKit Go.Proofs.YtlmmhlabacghnaaW.PrintWords Go.Proofs.YtlmmhlabacghnaaW.PrintLast Go.Proofs.YtlmmhlabacghnaaW.PrintMore
set_option linter.unusedVariables false
set_option linter.unusedSimpArgs false

/-- The free pointer goes down to a node without a key: the node (-1: none), and where the pointer stands then. -/
def roomL (l : List S67) : Nat → Int × Nat
  | 0 => (-1, 0)
  | f + 1 => if (nd l f).f0.f0 = 0 then ((f : Int), f) else roomL l f
theorem IsP.setFree {B g a cap : Nat} {l : List S67} {f : Int} {w : World} (h : IsP B g a cap l f w) (f' : Int) : IsP B g a cap l f' (w.setCell ⟨g, 1, none⟩ (.int .i64 f')) :=
  ⟨blk_put (cs := #[.slice (some ⟨a, 0, none⟩) l.length cap, .int .i64 f]) h.blk 1 _ rfl, Kd.R_far (p := ⟨g, 1, none⟩) h.row (fun k hk => by rw [hk]; exact fun e => h.ne e.symm) _, h.ne, h.len⟩
theorem fr_set (w : World) (g j : Nat) (v : Value) : Fr (fun k => k = g) w (w.setCell ⟨g, j, none⟩ v) :=
  ⟨rfl, rfl, rfl, by simp [World.setCell], fun k _ hk => Below.heap_setCell _ _ _ _ hk⟩

set_option maxHeartbeats 4000000 in
set_option maxRecDepth 100000 in
theorem room_call {B g a cap : Nat} {l : List S67} {f : Nat} {w : World} (h : IsP B g a cap l f w) (hf : f ≤ l.length) :
    Calls Try.prog 89 #[.pointer (some ⟨g, 0, none⟩)] w fun e w' => e = .returned (.int .i64 (roomL l f).1) ∧ IsP B g a cap l (roomL l f).2 w' ∧ Fr (fun k => k = g) w w' := by
  have H := Lib.hid (And.intro h hf)
  have hlen := h.len
  clear h hf
  go_enter Try.func89, Try.ntmps89
  go_wp2_with fail
  go_loopg [] f (fun kq wr => RowKit.Hid (roomL l kq = roomL l f) ∧ RowKit.Hid (IsP B g a cap l kq wr) ∧ kq ≤ f ∧ RowKit.Hid (Fr (fun k => k = g) w wr))
  case atStart => exact ⟨Lib.hid rfl, Lib.hid H.out.1, Nat.le_refl _, Lib.hid (Fr.refl _ _)⟩
  case round =>
    obtain ⟨hr, hI, hk, hF⟩ := hrel
    obtain ⟨x0, x1, y0, y1⟩ := two_of hI.out.blk
    cases gk with
    | zero =>
      go_wp2_with fail
      go_ret
      have hr := hr.out
      rw [← hr]
      exact ⟨rfl, hI.out, hF.out⟩
    | succ k1 =>
      have hlt : k1 < l.length := by have := H.out.2; omega
      have hkk : (k1 : Int) ≤ 65536 := by omega
      have p1 : 0 ≤ (k1 : Int) := by omega
      have p2 : (k1 : Int) < (l.length : Int) := by omega
      replace p1 := eq_true p1
      replace p2 := eq_true p2
      have p3 : decide (0 < ((k1 + 1 : Nat) : Int)) = true := decide_eq_true (by omega)
      have p4 : decide (0 < (k1 : Int) + 1) = true := decide_eq_true (by omega)
      have HL := Lib.hid hlt
      clear hlt
      have hmx : Try.prog.follows .mixedOrders = true := by kernel_rfl
      go_wp2_with fail
      obtain ⟨w1, hw1, hI1, hF1⟩ : ∃ w1, wr.setCell ⟨g, 1, none⟩ (.int .i64 (k1 : Int)) = w1 ∧ IsP B g a cap l (k1 : Int) w1 ∧ Fr (fun k => k = g) wr w1 := ⟨_, rfl, hI.out.setFree (k1 : Int), fr_set wr g 1 _⟩
      rw [hw1]
      clear x0 x1 y0 y1
      obtain ⟨x0, x1, y0, y1⟩ := two_of hI1.blk
      obtain ⟨e0, e1, e2, e3, e4, e5, e6⟩ := hI1.at k1 HL.out
      have P := Lib.hid (And.intro hI1 hF1)
      clear hI1 hF1 hw1
      go_still_tail 10, (by kernel_rfl)
      change wpList _ _ _ _ _ w1.drew
      have he := nodes_Node_empty.calls (nd l k1).f0.f0 (nd l k1).f0.f1 (nd l k1).f0.f2 (nd l k1).f1.f0 (nd l k1).f1.f1 (nd l k1).f1.f2 (nd l k1).f2 _ w1.drew rfl
      go_wp2_with fail
      refine he.mono ?_
      rintro e w3 ⟨rfl, hb3⟩
      have HI3 := Lib.hid ((P.out.1.below (Below.refl _ _).drew).below hb3)
      have HF3 := Lib.hid (hF.out.trans (P.out.2.trans (Fr.of_below ((Below.refl _ _).drew.trans (hb3.mono (Nat.le_refl _))))))
      obtain ⟨z0, z1, u0, u1⟩ := two_of HI3.out.blk
      clear he hb3 x0 x1 y0 y1 e0 e1 e2 e3 e4 e5 e6
      have hr1 := hr.out
      simp only [roomL] at hr1
      by_cases hz : (nd l k1).f0.f0 = 0
      · rw [if_pos hz] at hr1
        have hzb : ((nd l k1).f0.f0 == 0) = true := beq_iff_eq.2 hz
        rw [hzb]
        clear hz hzb
        have R := Lib.hid hr1
        clear hr1
        go_wp2_with fail
        go_ret
        have hr2 := R.out
        rw [← hr2]
        exact ⟨rfl, HI3.out, HF3.out⟩
      · rw [if_neg hz] at hr1
        have hzb : ((nd l k1).f0.f0 == 0) = false := beq_eq_false_iff_ne.2 hz
        rw [hzb]
        clear hz hzb
        have R := Lib.hid hr1
        clear hr1
        go_wp2_with fail
        go_roundg k1
        case measure => omega
        case rel => exact ⟨R, HI3, by omega, HF3⟩
end Go.Proofs.Ytlmmhlabacghnaa.PH
/- nodes: insert, way by way. -/
namespace Go.Proofs.Ytlmmhlabacghnaa.PH
open Go.RowKit Go.Proofs.YtlmmhlabacghnaaW.PrintWords Go.Proofs.YtlmmhlabacghnaaW.PrintLast Go.Proofs.YtlmmhlabacghnaaW.PrintMore
set_option linter.unusedVariables false
set_option linter.unusedSimpArgs false

/-- A node is stored. -/
theorem IsP.store {ops : Array Oper} {rest : List Oper} {o : Oper} {ac : Act} {Q : Exit → Act → World → Prop} {B g a cap : Nat} {l : List S67} {f : Int} {W : World} (h : IsP B g a cap l f W) (hN : o.dst = none) (hgd : o.guard = none) (p x : Operand) (ho : o.op = .store 67 p x)
    (i : Nat) (hi : i < l.length) (d : S67) (hp : ac.eval p = .pointer (some ⟨a, i * 7, none⟩)) (hx : ac.eval x = nv d) (hK : ∀ w1, IsP B g a cap (l.set i d) f w1 → Fr (fun k => k = a) W w1 → wpList Try.prog ops Q rest ac w1) : wpList Try.prog ops Q (o :: rest) ac W := by
  refine Kd.R_store k67 (w0 := W) (W := W) B hN hgd 67 p x ho 67 (i : Int) 0 l d (nv d) (ncells d) (ncells (nd l i)) (fun k => k = a) (fun _ => False) hp (by rw [Int.toNat_natCast]; rfl) hx rfl infoNode (by intro q hq; simp [ncells] at hq; rcases hq with rfl | rfl | rfl | rfl | rfl | rfl | rfl <;> rfl) h.row (by omega) (by omega) rfl ?cc (show 0 + 7 ≤ 7 by decide) ?M (fun _ hk => hk.elim) (Below.refl _ _) ?_
  case cc =>
    obtain ⟨c0, c1, c2, c3, c4, c5, c6⟩ := h.at i hi
    intro j u hu
    rw [Int.toNat_natCast]
    match j, hu with
    | 0, hu => cases hu; exact c0
    | 1, hu => cases hu; exact c1
    | 2, hu => cases hu; exact c2
    | 3, hu => cases hu; exact c3
    | 4, hu => cases hu; exact c4
    | 5, hu => cases hu; exact c5
    | 6, hu => cases hu; exact c6
    | j + 7, hu => simp [ncells] at hu
  case M => exact k67_mkM _ _ _ _
  intro w1 hR hb hg
  have hgl := (Array.getElem?_eq_some_iff.1 h.blk).1
  refine hK w1 ?_ ⟨hg.os, hg.tape, hg.output, hg.size, fun k hk hka => hg.block k hk (fun e => hka (by cases e; rfl))⟩
  rw [Int.toNat_natCast] at hR
  refine ⟨?_, ?_, h.ne, by rw [List.length_set]; exact h.len⟩
  · rw [List.length_set]
    exact (hg.block g hgl (fun e => h.ne (by cases e; rfl))).trans h.blk
  · rw [List.length_set]
    exact hR
theorem IsP.drew {B g a cap : Nat} {l : List S67} {f : Int} {w : World} (h : IsP B g a cap l f w) : IsP B g a cap l f w.drew := h.below (Below.refl _ _).drew

set_option maxHeartbeats 4000000 in
set_option maxRecDepth 100000 in
/-- The key's main position is free. -/
theorem insert_a {B g a cap : Nat} {l : List S67} {f : Int} {w : World} (h : IsP B g a cap l f w) (n : S67) (m : Nat) (hm : hash_Main.f n.f0.f0 n.f0.f1 n.f0.f2 l.length = some ((m : Int), 0)) (hml : m < l.length) (he : (nd l m).f0.f0 = 0) :
    Calls Try.prog 80 #[.pointer (some ⟨g, 0, none⟩), nv n] w fun e w' => e = .returned (.int .i64 0) ∧ IsP B g a cap (l.set m n) f w' ∧ Fr (fun k => k = a) w w' := by
  unfold nv
  have H := Lib.hid (And.intro h (And.intro hm (And.intro hml he)))
  have hlen := h.len
  have hmm : (m : Int) ≤ 65536 := by omega
  have p1 : 0 ≤ (m : Int) := by omega
  have p2 : (m : Int) < (l.length : Int) := by omega
  replace p1 := eq_true p1
  replace p2 := eq_true p2
  clear h hm hml he
  go_enter Try.func80, Try.ntmps80
  go_wp2_with fail
  obtain ⟨w1, hw1, hb1, hn1, hs1⟩ : ∃ w1, w.alloc (.cells #[.int .i64 n.f0.f0, .int .i64 n.f0.f1, .string n.f0.f2, .int .i64 n.f1.f0, .int .i64 n.f1.f1, .string n.f1.f2, .int .i64 n.f2] 67) = w1 ∧ Below w.heap.size w w1 ∧
      w1.heap[w.heap.size]? = some (.cells #[.int .i64 n.f0.f0, .int .i64 n.f0.f1, .string n.f0.f2, .int .i64 n.f1.f0, .int .i64 n.f1.f1, .string n.f1.f2, .int .i64 n.f2] 67 (0, 0)) ∧ w1.heap.size = w.heap.size + 1 :=
    ⟨_, rfl, (Below.refl _ _).alloc (Nat.le_refl _) _, heap_alloc_new _ _, by simp⟩
  rw [hw1]
  have hx := main_call (H.out.1.below hb1) n.f0 m 0 H.out.2.1 (by have := H.out.2.2.1; omega)
  unfold kv at hx
  refine hx.mono ?_
  rintro e w2 ⟨rfl, hb2⟩
  simp only [beq_self_eq_true]
  have I2 := Lib.hid ((H.out.1.below hb1).below hb2)
  have N2 := Lib.hid ((hb2.block w.heap.size (by omega)).trans hn1)
  have B2 := Lib.hid (hb1.trans (hb2.mono (by omega)))
  have S2 : w.heap.size + 1 ≤ w2.heap.size := by have := hb2.size; omega
  clear hx hw1 hb1 hn1 hs1 hb2
  obtain ⟨x0, x1, y0, y1⟩ := two_of I2.out.blk
  obtain ⟨e0, e1, e2, e3, e4, e5, e6⟩ := I2.out.at m H.out.2.2.1
  go_wp2_with fail
  have he := nodes_Node_empty.calls (nd l m).f0.f0 (nd l m).f0.f1 (nd l m).f0.f2 (nd l m).f1.f0 (nd l m).f1.f1 (nd l m).f1.f2 (nd l m).f2 _ w2 rfl
  refine he.mono ?_
  rintro e w3 ⟨rfl, hb3⟩
  rw [show ((nd l m).f0.f0 == 0) = true from beq_iff_eq.2 H.out.2.2.2]
  have I3 := Lib.hid (I2.out.below hb3)
  have N3 := Lib.hid ((hb3.block w.heap.size (by omega)).trans N2.out)
  have B3 := Lib.hid (B2.out.trans (hb3.mono (by omega)))
  clear x0 x1 y0 y1 e0 e1 e2 e3 e4 e5 e6 he hb3
  obtain ⟨x0, x1, y0, y1⟩ := two_of I3.out.blk
  obtain ⟨n0, n1, n2, n3, n4, n5, n6⟩ := seven_of N3.out
  have hmx : Try.prog.follows .mixedOrders = true := by kernel_rfl
  go_wp2_with fail
  go_still_tail 7, (by kernel_rfl)
  change wpList _ _ _ _ _ w3.drew
  refine I3.out.drew.store rfl rfl _ _ rfl m H.out.2.2.1 n rfl rfl ?_
  intro w4 hI4 hF4
  have Q := Lib.hid (And.intro hI4 ((Fr.of_below B3.out).trans ((Fr.of_below (Below.refl _ _).drew).trans hF4)))
  clear hI4 hF4
  go_wp2_with fail
  go_ret
  exact ⟨rfl, Q.out⟩

theorem IsP.setNext {B g a cap : Nat} {l : List S67} {f : Int} {w : World} (h : IsP B g a cap l f w) (i : Nat) (hi : i < l.length) (x : Int) : IsP B g a cap (l.set i ⟨(nd l i).f0, (nd l i).f1, x⟩) f (w.setCell ⟨a, i * 7 + 6, none⟩ (.int .i64 x)) := by
  obtain ⟨c0, c1, c2, c3, c4, c5, c6⟩ := h.at i hi
  have key := Kd.R_seg (d := k67) h.row (i : Int) (by omega) (by omega) (c := ncells (nd l i)) (seg := [.int .i64 x]) (j := 6) (x' := ⟨(nd l i).f0, (nd l i).f1, x⟩) (okp := fun _ => False) rfl ?_ (show 6 + 1 ≤ 7 by decide) (k67_mkM _ _ _ _) (fun _ hk => hk.elim)
  · obtain ⟨hR, hg⟩ := key
    rw [Int.toNat_natCast] at hR hg
    have hgl := (Array.getElem?_eq_some_iff.1 h.blk).1
    have hR' : Kd.R k67 67 (w.setCell ⟨a, i * 7 + 6, none⟩ (.int .i64 x)) B (fun k => k = a) (.slice (some ⟨a, 0, none⟩) l.length cap) (l.set i ⟨(nd l i).f0, (nd l i).f1, x⟩) := hR
    refine ⟨?_, ?_, h.ne, by rw [List.length_set]; exact h.len⟩
    · rw [List.length_set, Below.heap_setCell _ _ _ _ h.ne]
      exact h.blk
    · rw [List.length_set]
      exact hR'
  · intro j u hu
    rw [Int.toNat_natCast]
    match j, hu with
    | 0, hu => cases hu; exact c0
    | 1, hu => cases hu; exact c1
    | 2, hu => cases hu; exact c2
    | 3, hu => cases hu; exact c3
    | 4, hu => cases hu; exact c4
    | 5, hu => cases hu; exact c5
    | 6, hu => cases hu; exact c6
    | j + 7, hu => simp [ncells] at hu
theorem IsP.free {B g a cap : Nat} {l : List S67} {f : Int} {w : World} (h : IsP B g a cap l f w) (i : Nat) : w.frozen? ⟨a, i, none⟩ = false := by
  obtain ⟨_, inner, ho, _⟩ := h.row
  obtain ⟨cells, hc⟩ := own_typed ho a (by simp [Value.ownBlock])
  exact blk_frozen hc _

set_option maxHeartbeats 4000000 in
set_option maxRecDepth 100000 in
/-- No node is free below the free pointer. -/
theorem insert_b {B g a cap : Nat} {l : List S67} {f : Nat} {w : World} (h : IsP B g a cap l f w) (hf : f ≤ l.length) (n : S67) (m : Nat) (hm : hash_Main.f n.f0.f0 n.f0.f1 n.f0.f2 l.length = some ((m : Int), 0)) (hml : m < l.length) (he : ¬ (nd l m).f0.f0 = 0) (hr : (roomL l f).1 = -1) :
    Calls Try.prog 80 #[.pointer (some ⟨g, 0, none⟩), nv n] w fun e w' => e = .returned (.int .i64 12) ∧ IsP B g a cap l (roomL l f).2 w' ∧ Fr (fun k => k = g) w w' := by
  unfold nv
  have H := Lib.hid (And.intro h (And.intro hm (And.intro hml he)))
  have HF := Lib.hid (And.intro hf hr)
  have hlen := h.len
  have hmm : (m : Int) ≤ 65536 := by omega
  have p1 : 0 ≤ (m : Int) := by omega
  have p2 : (m : Int) < (l.length : Int) := by omega
  replace p1 := eq_true p1
  replace p2 := eq_true p2
  clear h hm hml he hf hr
  go_enter Try.func80, Try.ntmps80
  go_wp2_with fail
  obtain ⟨w1, hw1, hb1, hn1, hs1⟩ : ∃ w1, w.alloc (.cells #[.int .i64 n.f0.f0, .int .i64 n.f0.f1, .string n.f0.f2, .int .i64 n.f1.f0, .int .i64 n.f1.f1, .string n.f1.f2, .int .i64 n.f2] 67) = w1 ∧ Below w.heap.size w w1 ∧
      w1.heap[w.heap.size]? = some (.cells #[.int .i64 n.f0.f0, .int .i64 n.f0.f1, .string n.f0.f2, .int .i64 n.f1.f0, .int .i64 n.f1.f1, .string n.f1.f2, .int .i64 n.f2] 67 (0, 0)) ∧ w1.heap.size = w.heap.size + 1 :=
    ⟨_, rfl, (Below.refl _ _).alloc (Nat.le_refl _) _, heap_alloc_new _ _, by simp⟩
  rw [hw1]
  have hx := main_call (H.out.1.below hb1) n.f0 m 0 H.out.2.1 (by have := H.out.2.2.1; omega)
  unfold kv at hx
  refine hx.mono ?_
  rintro e w2 ⟨rfl, hb2⟩
  simp only [beq_self_eq_true]
  have I2 := Lib.hid ((H.out.1.below hb1).below hb2)
  have N2 := Lib.hid ((hb2.block w.heap.size (by omega)).trans hn1)
  have B2 := Lib.hid (hb1.trans (hb2.mono (by omega)))
  have S2 : w.heap.size + 1 ≤ w2.heap.size := by have := hb2.size; omega
  clear hx hw1 hb1 hn1 hs1 hb2
  obtain ⟨x0, x1, y0, y1⟩ := two_of I2.out.blk
  obtain ⟨e0, e1, e2, e3, e4, e5, e6⟩ := I2.out.at m H.out.2.2.1
  go_wp2_with fail
  have he := nodes_Node_empty.calls (nd l m).f0.f0 (nd l m).f0.f1 (nd l m).f0.f2 (nd l m).f1.f0 (nd l m).f1.f1 (nd l m).f1.f2 (nd l m).f2 _ w2 rfl
  refine he.mono ?_
  rintro e w3 ⟨rfl, hb3⟩
  rw [show ((nd l m).f0.f0 == 0) = false from beq_eq_false_iff_ne.2 H.out.2.2.2]
  have I3 := Lib.hid (I2.out.below hb3)
  have B3 := Lib.hid (B2.out.trans (hb3.mono (by omega)))
  clear x0 x1 y0 y1 e0 e1 e2 e3 e4 e5 e6 he hb3
  go_wp2_with fail
  refine (room_call I3.out HF.out.1).mono ?_
  rintro e w4 ⟨rfl, hI4, hF4⟩
  rw [HF.out.2]
  have Q := Lib.hid (And.intro hI4 ((Fr.of_below B3.out).trans hF4))
  clear hI4 hF4
  go_wp2_with fail
  go_ret
  exact ⟨rfl, Q.out⟩
end Go.Proofs.Ytlmmhlabacghnaa.PH
/- nodes: insert, where the main position is taken. -/
namespace Go.Proofs.Ytlmmhlabacghnaa.PH
open Go.RowKit Go.Proofs.YtlmmhlabacghnaaW.PrintWords Go.Proofs.YtlmmhlabacghnaaW.PrintLast Go.Proofs.YtlmmhlabacghnaaW.PrintMore
set_option linter.unusedVariables false
set_option linter.unusedSimpArgs false

set_option maxHeartbeats 8000000 in
set_option maxRecDepth 100000 in
/-- The node at the main position is of the same chain. -/
theorem insert_c1 {B g a cap : Nat} {l : List S67} {f : Nat} {w : World} (h : IsP B g a cap l f w) (hB : B ≤ w.heap.size) (hf : f ≤ l.length) (n : S67) (m : Nat) (hm : hash_Main.f n.f0.f0 n.f0.f1 n.f0.f2 l.length = some ((m : Int), 0)) (hml : m < l.length) (he : ¬ (nd l m).f0.f0 = 0) (fi : Nat) (hr : roomL l f = ((fi : Int), fi)) (hfi : fi < l.length ∧ fi ≠ m) (o : Nat) (ho : hash_Main.f (nd l m).f0.f0 (nd l m).f0.f1 (nd l m).f0.f2 l.length = some ((o : Int), 0)) (hom : o = m)
    (hx2 : -65536 ≤ (nd l m).f2 ∧ (nd l m).f2 ≤ 65536) (L : List S67) (hL : (l.set fi ⟨n.f0, n.f1, if (nd l m).f2 = 0 then 0 else (m : Int) + (nd l m).f2 - fi⟩).set m ⟨(nd l m).f0, (nd l m).f1, (fi : Int) - m⟩ = L) :
    Calls Try.prog 80 #[.pointer (some ⟨g, 0, none⟩), nv n] w fun e w' => e = .returned (.int .i64 0) ∧ IsP B g a cap L fi w' ∧ Fr (fun k => k = g ∨ k = a) w w' := by
  unfold nv
  have H := Lib.hid (And.intro h (And.intro hm (And.intro hml he)))
  have HF := Lib.hid (And.intro hf (And.intro hr (And.intro hfi ho)))
  have HX := Lib.hid (And.intro hx2 (And.intro hB hom))
  have HL := Lib.hid hL
  have hlen := h.len
  have hmm : (m : Int) ≤ 65536 := by omega
  have hff : (fi : Int) ≤ 65536 := by omega
  have p1 : 0 ≤ (m : Int) := by omega
  have p2 : (m : Int) < (l.length : Int) := by omega
  replace p1 := eq_true p1
  replace p2 := eq_true p2
  clear h hm hml he hf hr hfi ho hx2 hB hom hL
  go_enter Try.func80, Try.ntmps80
  go_wp2_with fail
  obtain ⟨w1, hw1, hb1, hn1, hs1⟩ : ∃ w1, w.alloc (.cells #[.int .i64 n.f0.f0, .int .i64 n.f0.f1, .string n.f0.f2, .int .i64 n.f1.f0, .int .i64 n.f1.f1, .string n.f1.f2, .int .i64 n.f2] 67) = w1 ∧ Below w.heap.size w w1 ∧
      w1.heap[w.heap.size]? = some (.cells #[.int .i64 n.f0.f0, .int .i64 n.f0.f1, .string n.f0.f2, .int .i64 n.f1.f0, .int .i64 n.f1.f1, .string n.f1.f2, .int .i64 n.f2] 67 (0, 0)) ∧ w1.heap.size = w.heap.size + 1 :=
    ⟨_, rfl, (Below.refl _ _).alloc (Nat.le_refl _) _, heap_alloc_new _ _, by simp⟩
  rw [hw1]
  have hx := main_call (H.out.1.below hb1) n.f0 m 0 H.out.2.1 (by have := H.out.2.2.1; omega)
  unfold kv at hx
  refine hx.mono ?_
  rintro e w2 ⟨rfl, hb2⟩
  simp only [beq_self_eq_true]
  have I2 := Lib.hid ((H.out.1.below hb1).below hb2)
  have N2 := Lib.hid ((hb2.block w.heap.size (by omega)).trans hn1)
  have B2 := Lib.hid (hb1.trans (hb2.mono (by omega)))
  have S2 : w.heap.size + 1 ≤ w2.heap.size := by have := hb2.size; omega
  clear hx hw1 hb1 hn1 hs1 hb2
  obtain ⟨x0, x1, y0, y1⟩ := two_of I2.out.blk
  obtain ⟨e0, e1, e2, e3, e4, e5, e6⟩ := I2.out.at m H.out.2.2.1
  go_wp2_with fail
  have he := nodes_Node_empty.calls (nd l m).f0.f0 (nd l m).f0.f1 (nd l m).f0.f2 (nd l m).f1.f0 (nd l m).f1.f1 (nd l m).f1.f2 (nd l m).f2 _ w2 rfl
  refine he.mono ?_
  rintro e w3 ⟨rfl, hb3⟩
  rw [show ((nd l m).f0.f0 == 0) = false from beq_eq_false_iff_ne.2 H.out.2.2.2]
  have I3 := Lib.hid (I2.out.below hb3)
  have N3 := Lib.hid ((hb3.block w.heap.size (by omega)).trans N2.out)
  have B3 := Lib.hid (B2.out.trans (hb3.mono (by omega)))
  have S3 : w.heap.size + 1 ≤ w3.heap.size := by have := hb3.size; omega
  clear x0 x1 y0 y1 e0 e1 e2 e3 e4 e5 e6 he hb3
  go_wp2_with fail
  refine (room_call I3.out HF.out.1).mono ?_
  rintro e w4 ⟨rfl, hI4, hF4⟩
  rw [HF.out.2.1] at hI4 ⊢
  have hgl : g < w.heap.size := (Array.getElem?_eq_some_iff.1 H.out.1.blk).1
  have I4 := Lib.hid hI4
  have N4 := Lib.hid ((hF4.block w.heap.size (by omega) (by omega)).trans N3.out)
  have F4 := Lib.hid ((Fr.of_below B3.out).trans hF4)
  have S4 : w.heap.size + 1 ≤ w4.heap.size := by have := hF4.size; omega
  clear hI4 hF4
  have q0 : decide ((fi : Int) < 0) = false := decide_eq_false (by omega)
  obtain ⟨x0, x1, y0, y1⟩ := two_of I4.out.blk
  obtain ⟨e0, e1, e2, e3, e4, e5, e6⟩ := I4.out.at m H.out.2.2.1
  go_wp2_with fail
  obtain ⟨w5, hw5, hb5, ht5, hs5⟩ : ∃ w5, w4.alloc (.cells #[.int .i64 (nd l m).f0.f0, .int .i64 (nd l m).f0.f1, .string (nd l m).f0.f2, .int .i64 (nd l m).f1.f0, .int .i64 (nd l m).f1.f1, .string (nd l m).f1.f2, .int .i64 (nd l m).f2] 67) = w5 ∧ Below w4.heap.size w4 w5 ∧
      w5.heap[w4.heap.size]? = some (.cells #[.int .i64 (nd l m).f0.f0, .int .i64 (nd l m).f0.f1, .string (nd l m).f0.f2, .int .i64 (nd l m).f1.f0, .int .i64 (nd l m).f1.f1, .string (nd l m).f1.f2, .int .i64 (nd l m).f2] 67 (0, 0)) ∧ w5.heap.size = w4.heap.size + 1 :=
    ⟨_, rfl, (Below.refl _ _).alloc (Nat.le_refl _) _, heap_alloc_new _ _, by simp⟩
  rw [hw5]
  have hx := main_call (I4.out.below hb5) (nd l m).f0 o 0 HF.out.2.2.2 (by have := H.out.2.2.1; omega)
  unfold kv at hx
  refine hx.mono ?_
  rintro e w6 ⟨rfl, hb6⟩
  simp only [beq_self_eq_true]
  have I6 := Lib.hid ((I4.out.below hb5).below hb6)
  have N6 := Lib.hid ((hb6.block w.heap.size (by omega)).trans ((hb5.block w.heap.size (by omega)).trans N4.out))
  have T6 := Lib.hid ((hb6.block w4.heap.size (by omega)).trans ht5)
  have F6 := Lib.hid (F4.out.trans (Fr.of_below (hb5.trans (hb6.mono (by omega)))))
  clear x0 x1 y0 y1 e0 e1 e2 e3 e4 e5 e6 hx hw5 hb5 ht5 hs5 hb6
  obtain ⟨n0, n1, n2, n3, n4, n5, n6⟩ := seven_of N6.out
  obtain ⟨t0, t1, t2, t3, t4, t5, t6⟩ := seven_of T6.out
  have d1 : decide ((o : Int) = (m : Int)) = true := decide_eq_true (by have := HX.out.2.2; omega)
  have d2 : ((o : Int) == (m : Int)) = true := beq_iff_eq.2 (by have := HX.out.2.2; omega)
  go_wp2_with fail
  have hx := link_call I6.out (by have := F6.out.size; have := HX.out.2.1; omega) fi HF.out.2.2.1.1 n (nd l m) m (by omega) HX.out.1
  unfold nv at hx
  refine hx.mono ?_
  rintro e w7 ⟨rfl, hI7, hF7⟩
  have F7 := Lib.hid ((F6.out.imp (fun k hk => (.inl hk : k = g ∨ k = a))).trans (hF7.imp (fun k hk => .inr hk)))
  have hml7 : m < (l.set fi ⟨n.f0, n.f1, if (nd l m).f2 = 0 then 0 else (m : Int) + (nd l m).f2 - fi⟩).length := by rw [List.length_set]; exact H.out.2.2.1
  have hnd : nd (l.set fi ⟨n.f0, n.f1, if (nd l m).f2 = 0 then 0 else (m : Int) + (nd l m).f2 - fi⟩) m = nd l m := by
    unfold nd
    rw [List.getD_eq_getElem?_getD, List.getD_eq_getElem?_getD, List.getElem?_set_ne HF.out.2.2.1.2]
  have hz := hI7.free (m * 7 + 6)
  have hc6 := (hI7.at m hml7).2.2.2.2.2.2
  have hI8 := hI7.setNext m hml7 ((fi : Int) - m)
  rw [hnd] at hc6 hI8
  rw [HL.out] at hI8
  obtain ⟨x0, x1, y0, y1⟩ := two_of hI7.blk
  rw [List.length_set] at x0
  have Q := Lib.hid (And.intro hI8 (F7.out.trans (Fr.imp (fr_set w7 a (m * 7 + 6) (.int .i64 ((fi : Int) - m))) (fun k hk => .inr hk))))
  clear hx hI7 hF7 hnd hml7 hI8 n0 n1 n2 n3 n4 n5 n6 t0 t1 t2 t3 t4 t5 t6
  go_wp2_with fail
  go_ret
  exact ⟨rfl, Q.out⟩
end Go.Proofs.Ytlmmhlabacghnaa.PH
