import Derived.Test.YtaoippnipcchmaaGreatDoorMB
import Derived.Defers
import Derived.Recover
import Derived.Test.YtaoippnipcchmaaGreatDoorTG
import Derived.Test.YtaoippnipcchmaaGreatDoorMC
import Derived.Test.YtaoippnipcchmaaGreatDoorPTx10
import Derived.Test.YtaoippnipcchmaaGreatDoorMA
import Derived.Deep.RegionLaw
/- TopCode: the deferred closures, where nothing panicked. -/
namespace Go.Proofs.YtaoippnipcchmaaGreatDoor.PT
open Go.RowKit Go.Proofs.YtaoippnipcchmaaGreatDoorW.PrintWords Go.Proofs.YtaoippnipcchmaaGreatDoorW.PrintLast Go.Proofs.YtaoippnipcchmaaGreatDoorW.PrintMore
set_option linter.unusedVariables false
set_option linter.unusedSimpArgs false

set_option maxHeartbeats 4000000 in
set_option maxRecDepth 100000 in
theorem parse_door (p q : Addr) (w : World) : CallsD Tryz.prog 16 #[.pointer (some p), .pointer (some q)] .returning w fun e u' w' => e = .returned (.tuple #[]) ∧ u' = .returning ∧ w' = w := by
  refine callsD_of_wpS Tryz.func16 rfl fun c₀ cs hu => ?_
  apply wpS_seq
  apply wpS_region
  simp [wpOpsS, go_sem, recoverD, hu, Tryz.ntmps16, Exit.thenS]
  refine wpS_of_wp ?_
  go_wp2_with fail
  cases c₀
  simp_all [bodyPostS, results, Tryz.results16]
set_option maxHeartbeats 4000000 in
set_option maxRecDepth 100000 in
theorem scan_door (p q : Addr) (w : World) : CallsD Tryz.prog 28 #[.pointer (some p), .pointer (some q)] .returning w fun e u' w' => e = .returned (.tuple #[]) ∧ u' = .returning ∧ w' = w := by
  refine callsD_of_wpS Tryz.func28 rfl fun c₀ cs hu => ?_
  apply wpS_seq
  apply wpS_region
  simp [wpOpsS, go_sem, recoverD, hu, Tryz.ntmps28, Exit.thenS]
  refine wpS_of_wp ?_
  go_wp2_with fail
  cases c₀
  simp_all [bodyPostS, results, Tryz.results28]
set_option maxHeartbeats 4000000 in
set_option maxRecDepth 100000 in
theorem check_door (p q : Addr) (w : World) : CallsD Tryz.prog 11 #[.pointer (some p), .pointer (some q)] .returning w fun e u' w' => e = .returned (.tuple #[]) ∧ u' = .returning ∧ w' = w := by
  refine callsD_of_wpS Tryz.func11 rfl fun c₀ cs hu => ?_
  apply wpS_seq
  apply wpS_region
  simp [wpOpsS, go_sem, recoverD, hu, Tryz.ntmps11, Exit.thenS]
  refine wpS_of_wp ?_
  go_wp2_with fail
  cases c₀
  simp_all [bodyPostS, results, Tryz.results11]
end Go.Proofs.YtaoippnipcchmaaGreatDoor.PT
/- TopCode: the parser over an expression's tokens. -/
namespace Go.Proofs.YtaoippnipcchmaaGreatDoor.PT
open Go.RowKit Go.Proofs.YtaoippnipcchmaaGreatDoorW.PrintWords Go.Proofs.YtaoippnipcchmaaGreatDoorW.PrintLast Go.Proofs.YtaoippnipcchmaaGreatDoorW.PrintMore
open Go.Proofs.YtaoippnipcchmaaGreatDoor.TP
set_option linter.unusedVariables false
set_option linter.unusedSimpArgs false

theorem stop_mt {T : List Tk} {j : Nat} {t : Tok} (hj : j < T.length) (h : Mt t (tk T j)) (h1 : (t.text == [91]) = false) (h2 : (t.text == [46]) = false) (h3 : (t.text == [40]) = false) : Stop T j :=
  ⟨hj, (isB_mt h [91]).trans (by rw [h1, Bool.and_false]), (isB_mt h [46]).trans (by rw [h2, Bool.and_false]), (isB_mt h [40]).trans (by rw [h3, Bool.and_false])⟩
theorem stop_op {T : List Tk} {j o : Nat} (ho : o = 1 ∨ o = 2 ∨ o = 3 ∨ o = 5 ∨ o = 6) (hj : j < T.length) (h : Mt (tOp o) (tk T j)) : Stop T j := by
  rcases ho with rfl | rfl | rfl | rfl | rfl <;> exact stop_mt hj h rfl rfl rfl
theorem stop_close {T : List Tk} {j : Nat} (hj : j < T.length) (h : Mt tClose (tk T j)) : Stop T j := stop_mt hj h rfl rfl rfl
theorem stop_end {T : List Tk} {j : Nat} (hj : j < T.length) (h : Mt tEnd (tk T j)) : Stop T j := stop_mt hj h rfl rfl rfl
theorem operand_ex {T : List Tk} {g a c : Nat} (e : Ex) : e.ok → ∀ (i : Nat) (w : World), Par g a c T i w → Toks T i e.toks → Stop T (i + e.toks.length) →
    Calls Tryz.prog 95 #[.pointer (some ⟨g, 0, none⟩)] w (Res T g a c (treeOf e) (i + e.toks.length) w) := by
  induction e with
  | num n => exact fun _ i w hP hT hS => operand_num hP hT.head.1 n hT.head.2
  | op o x y ihx ihy =>
    intro hok i w hP hT hS
    obtain ⟨ho, hx, hy⟩ := hok
    have hlen : (Ex.op o x y).toks.length = x.toks.length + y.toks.length + 3 := by simp [Ex.toks]; omega
    have h0 := hT.head
    have h1 := hT.tail
    have h2 := h1.left
    have h3 := h1.right.head
    have h4 := h1.right.tail.left
    have h5 := h1.right.tail.right.head
    have hj : i + 1 + x.toks.length + 1 + y.toks.length = i + (x.toks.length + y.toks.length + 2) := by omega
    rw [hlen] at hS ⊢
    have hb : 0 ≤ opB o := by rcases ho with rfl | rfl | rfl | rfl | rfl <;> decide
    refine operand_paren hP h0.1 h0.2 (fun w1 hP1 => ?_)
    have hs := suffixed_paren (j := i + (x.toks.length + y.toks.length + 2)) hP1 h0.1 h0.2 (t := .two (opT o) (treeOf x) (treeOf y)) (fun w2 hP2 => ?_) (by rw [← hj]; exact h5.1) (by rw [← hj]; exact h5.2) (by rw [show i + (x.toks.length + y.toks.length + 2) + 1 = i + (x.toks.length + y.toks.length + 3) by omega]; exact hS)
    · rw [show i + (x.toks.length + y.toks.length + 3) = i + (x.toks.length + y.toks.length + 2) + 1 by omega]
      exact hs
    · rw [← hj]
      exact exp_two (i + 1) hP2 o ho (fun w3 hP3 => ihx hx (i + 1) w3 hP3 h2 (stop_op ho h3.1 h3.2)) h3.1 h3.2
        (fun w3 hP3 => exp_one (i + 1 + x.toks.length + 1) hP3 (opB o) 0 (fun w4 hP4 => ihy hy _ w4 hP4 h4 (stop_close h5.1 h5.2)) h5.1 (binds_close h5.2) hb) h5.1 (binds_close h5.2)
  | neg x ih =>
    intro hok i w hP hT hS
    have hlen : (Ex.neg x).toks.length = x.toks.length + 3 := by simp [Ex.toks]
    have h0 := hT.head
    have h1 := hT.tail.head
    have h2 := hT.tail.tail.left
    have h3 := hT.tail.tail.right.head
    have hj : i + 1 + 1 + x.toks.length = i + (x.toks.length + 2) := by omega
    rw [hlen] at hS ⊢
    refine operand_paren hP h0.1 h0.2 (fun w1 hP1 => ?_)
    have hs := suffixed_paren (j := i + (x.toks.length + 2)) hP1 h0.1 h0.2 (t := .one 10 [45] (treeOf x)) (fun w2 hP2 => ?_) (by rw [← hj]; exact h3.1) (by rw [← hj]; exact h3.2) (by rw [show i + (x.toks.length + 2) + 1 = i + (x.toks.length + 3) by omega]; exact hS)
    · rw [show i + (x.toks.length + 3) = i + (x.toks.length + 2) + 1 by omega]
      exact hs
    · rw [← hj]
      exact exp_one (i + 1) hP2 0 0 (fun w3 hP3 => operand_minus hP3 h1.1 h1.2 (fun w4 hP4 => exp_one (i + 1 + 1) hP4 7 0 (fun w5 hP5 => ih hok _ w5 hP5 h2 (stop_close h3.1 h3.2)) h3.1 (binds_close h3.2) (by omega))) h3.1 (binds_close h3.2) (Int.le_refl _)
/-- An expression behind which the text ends. -/
theorem exp_ex {T : List Tk} {g a c i : Nat} {w : World} (e : Ex) (hok : e.ok) (hP : Par g a c T i w) (hT : Toks T i (e.toks ++ [tEnd])) :
    Calls Tryz.prog 55 #[.pointer (some ⟨g, 0, none⟩), .int .i64 0] w (Res T g a c (treeOf e) (i + e.toks.length) w) :=
  exp_one i hP 0 0 (fun w1 hP1 => operand_ex e hok i w1 hP1 hT.left (stop_end hT.right.head.1 hT.right.head.2)) hT.right.head.1 (binds_end hT.right.head.2) (Int.le_refl _)
end Go.Proofs.YtaoippnipcchmaaGreatDoor.PT
/- TopCode: Parse. -/
namespace Go.Proofs.YtaoippnipcchmaaGreatDoor.PT
open Go.RowKit Go.Proofs.YtaoippnipcchmaaGreatDoorW.PrintWords Go.Proofs.YtaoippnipcchmaaGreatDoorW.PrintLast Go.Proofs.YtaoippnipcchmaaGreatDoorW.PrintMore
open Go.Proofs.YtaoippnipcchmaaGreatDoor.TP
set_option linter.unusedVariables false
set_option linter.unusedSimpArgs false

/-- What Scan comes to: the tokens of `return e`, in new memory. -/
def ScanRes (e : Ex) (w : World) (r : Ending) (w' : World) : Prop := ∃ a c T, r = .returned (.tuple #[.slice (some ⟨a, 0, none⟩) T.length c, .agg #[.int .i64 0, .int .i64 0]]) ∧ Kd.R k88 88 w' 0 (fun k => k = a) (.slice (some ⟨a, 0, none⟩) T.length c) T ∧ w.heap.size ≤ a ∧ T.length ≤ 65536 ∧ Toks T 0 (tRet :: (e.toks ++ [tEnd])) ∧ Below w.heap.size w w'
/-- The tree of `return e`. -/
def rootOf (e : Ex) : Tr := .one 20 [] (.one 30 [] (treeOf e))
theorem first_tok (e : Ex) : ∃ t l, e.toks = t :: l ∧ (t = tOpen ∨ ∃ n, t = tNum n) := by
  cases e with
  | num n => exact ⟨_, _, rfl, .inr ⟨n, rfl⟩⟩
  | op o a b => exact ⟨_, _, rfl, .inl rfl⟩
  | neg a => exact ⟨_, _, rfl, .inl rfl⟩
theorem first_no {t : Tok} {x : Tk} (ht : t = tOpen ∨ ∃ n, t = tNum n) (h : Mt t x) : x.f0 ≠ 6 ∧ isB x ⟨#[101, 110, 100]⟩ = false ∧ isB x ⟨#[101, 108, 115, 101]⟩ = false ∧ isB x ⟨#[101, 108, 115, 101, 105, 102]⟩ = false ∧ isB x ⟨#[59]⟩ = false := by
  rcases ht with rfl | ⟨n, rfl⟩
  · exact ⟨by rw [h.1]; decide, (isB_mt h [101, 110, 100]).trans rfl, (isB_mt h [101, 108, 115, 101]).trans rfl, (isB_mt h [101, 108, 115, 101, 105, 102]).trans rfl, (isB_mt h [59]).trans rfl⟩
  · exact ⟨by rw [h.1]; show (3 : Int) ≠ 6; decide, (isB_mt h [101, 110, 100]).trans rfl, (isB_mt h [101, 108, 115, 101]).trans rfl, (isB_mt h [101, 108, 115, 101, 105, 102]).trans rfl, (isB_mt h [59]).trans rfl⟩
/-- The parser's block over the tokens of `return e`. -/
theorem block_ex {T : List Tk} {g a c : Nat} {w : World} (e : Ex) (hok : e.ok) (hP : Par g a c T 0 w) (hT : Toks T 0 (tRet :: (e.toks ++ [tEnd]))) :
    Calls Tryz.prog 17 #[.pointer (some ⟨g, 0, none⟩), .bool true] w (Res T g a c (rootOf e) (1 + e.toks.length) w) := by
  obtain ⟨t, l, htl, ht⟩ := first_tok e
  have h1 := hT.tail
  have h2 : Toks T (0 + 1) (t :: (l ++ [tEnd])) := by rw [htl] at h1; exact h1
  have hE := h1.right.head
  rw [show (0 : Nat) + 1 + e.toks.length = 1 + e.toks.length by omega] at hE
  have hf := first_no ht h2.head.2
  exact block_ret hP h2.head.1 hT.head.2 hf.1 hf.2.1 hf.2.2.1 hf.2.2.2.1 hf.2.2.2.2 (fun w1 hP1 => by have := exp_ex (i := 1) e hok hP1 (by simpa using h1); exact this) hE.1 ((isB_mt hE.2 [44]).trans rfl) ((isB_mt hE.2 [59]).trans rfl)
theorem field_kd (x0 : Int) (x1 : ByteArray) (x2 x3 : Int) (w : World) : (Instr.field 88 (.agg #[.int .i64 x0, .string x1, .int .i64 x2, .int .i64 x3]) 0).run Tryz.prog w = .ok (.int .i64 x0) w := by kernel_rfl
set_option maxHeartbeats 8000000 in
set_option maxRecDepth 100000 in
theorem parse_call (e : Ex) (hok : e.ok) (src : ByteArray) (hsc : ∀ w, Calls Tryz.prog 15 #[.string src] w (ScanRes e w)) (w : World) :
    Calls Tryz.prog 9 #[.string src] w fun r w' => ∃ x v, r = .returned (.tuple #[v, .agg #[.int .i64 0, .int .i64 0]]) ∧ NV w' w.heap.size x v ∧ Sh (rootOf e) x ∧ Below w.heap.size w w' := by
  have hmf : ∀ (fn : Fn) (first cap : Array Value) (w : World), (Instr.makeFunc fn first cap).run Tryz.prog w = .ok (.func fn first cap) w := fun _ _ _ _ => rfl
  have hfl := field_kd
  have HS := Lib.hid hsc
  have HO := Lib.hid hok
  clear hsc hok
  go_enter_defers Tryz.func9, Tryz.ntmps9
  go_wp2_with fail
  obtain ⟨w1, hw1, hb1, hn1, hf1, hs1⟩ : ∃ w1, (w.alloc (.cells #[.int .i64 0, .string (⟨#[]⟩ : ByteArray), .int .i64 0, .int .i64 0, .slice none 0 0] 51)).alloc (.cells #[.int .i64 0, .int .i64 0] 31) = w1 ∧ Below w.heap.size w w1 ∧ w1.heap[w.heap.size]? = some (.cells #[.int .i64 0, .string (⟨#[]⟩ : ByteArray), .int .i64 0, .int .i64 0, .slice none 0 0] 51 (0, 0)) ∧ w1.heap[w.heap.size + 1]? = some (.cells #[.int .i64 0, .int .i64 0] 31 (0, 0)) ∧ w1.heap.size = w.heap.size + 2 :=
    ⟨_, rfl, ((Below.refl _ _).alloc (Nat.le_refl _) _).alloc (by simp) _, (Below.heap_alloc _ _ _ (by simp)).trans (heap_alloc_new _ _), by have := heap_alloc_new (w.alloc (.cells #[.int .i64 0, .string (⟨#[]⟩ : ByteArray), .int .i64 0, .int .i64 0, .slice none 0 0] 51)) (.cells #[.int .i64 0, .int .i64 0] 31); simpa using this, by simp⟩
  rw [hw1]
  refine (HS.out w1).mono ?_
  rintro r w2 ⟨a, c, T, rfl, hT, ha, hl, hTk, hb2⟩
  have N2 := Lib.hid (Bel.blk hb2 hn1)
  have F2 := Lib.hid (Bel.blk hb2 hf1)
  have B2 := Lib.hid (hb1.trans (hb2.mono hb1.size))
  have T2 := Lib.hid (And.intro hT (And.intro (show w.heap.size + 2 ≤ a by omega) (And.intro hl hTk)))
  clear hw1 hb1 hn1 hf1 hs1 hb2 hT ha hl hTk
  obtain ⟨f0, f1, z0, z1⟩ := two_of F2.out
  go_wp2_with fail
  obtain ⟨w3, hw3, hN3, hF3, hP3, hB3⟩ : ∃ w3, ((w2.setCell ⟨w.heap.size + 1, 0, none⟩ (.int .i64 0)).setCell ⟨w.heap.size + 1, 1, none⟩ (.int .i64 0)).alloc (.cells #[.slice (some ⟨a, 0, none⟩) T.length c, .int .i64 0] 85) = w3 ∧ w3.heap[w.heap.size]? = some (.cells #[.int .i64 0, .string (⟨#[]⟩ : ByteArray), .int .i64 0, .int .i64 0, .slice none 0 0] 51 (0, 0)) ∧ w3.heap[w.heap.size + 1]? = some (.cells #[.int .i64 0, .int .i64 0] 31 (0, 0)) ∧ Par w2.heap.size a c T 0 w3 ∧ Below w.heap.size w w3 := by
    have hFr : Fr (fun k => k = w.heap.size + 1) w2 ((w2.setCell ⟨w.heap.size + 1, 0, none⟩ (.int .i64 0)).setCell ⟨w.heap.size + 1, 1, none⟩ (.int .i64 0)) := (Fr.set (c := fun k => k = w.heap.size + 1) (p := ⟨w.heap.size + 1, 0, none⟩) rfl _).trans (Fr.set (c := fun k => k = w.heap.size + 1) (p := ⟨w.heap.size + 1, 1, none⟩) rfl _)
    have hs : ((w2.setCell ⟨w.heap.size + 1, 0, none⟩ (.int .i64 0)).setCell ⟨w.heap.size + 1, 1, none⟩ (.int .i64 0)).heap.size = w2.heap.size := by simp
    have hal := below_alloc (Below.refl ((w2.setCell ⟨w.heap.size + 1, 0, none⟩ (.int .i64 0)).setCell ⟨w.heap.size + 1, 1, none⟩ (.int .i64 0)).heap.size ((w2.setCell ⟨w.heap.size + 1, 0, none⟩ (.int .i64 0)).setCell ⟨w.heap.size + 1, 1, none⟩ (.int .i64 0))) (.cells #[.slice (some ⟨a, 0, none⟩) T.length c, .int .i64 0] 85)
    have hnew := heap_alloc_new ((w2.setCell ⟨w.heap.size + 1, 0, none⟩ (.int .i64 0)).setCell ⟨w.heap.size + 1, 1, none⟩ (.int .i64 0)) (.cells #[.slice (some ⟨a, 0, none⟩) T.length c, .int .i64 0] 85)
    rw [hs] at hnew
    have hal2 : a < w2.heap.size := Kd.R_lt T2.out.1 a (by simp [Value.ownBlock])
    refine ⟨_, rfl, Bel.blk hal (hFr.blk N2.out (by omega)), Bel.blk hal (blk_put (cs := #[.int .i64 0, .int .i64 0]) (blk_put (cs := #[.int .i64 0, .int .i64 0]) F2.out 0 _ rfl) 1 _ rfl), ⟨hnew, Kd.R_below (Kd.R_step T2.out.1 (fun k hk hlt => hFr.block k hlt (by have := T2.out.2.1; omega))) hal, by omega, T2.out.2.2.1⟩, ?_⟩
    exact ((B2.out.setCell (p := ⟨w.heap.size + 1, 0, none⟩) (by show w.heap.size ≤ w.heap.size + 1; omega) _).setCell (p := ⟨w.heap.size + 1, 1, none⟩) (by show w.heap.size ≤ w.heap.size + 1; omega) _).alloc (by rw [hs]; exact B2.out.size) _
  rw [hw3]
  have s2 : w.heap.size + 1 < w2.heap.size := blt F2.out
  clear f0 f1 z0 z1 hw3 N2 F2 B2
  refine (block_ex e HO.out hP3 T2.out.2.2.2).mono ?_
  rintro r w4 ⟨v, x, rfl, hN, hS, hP4, hF4⟩
  obtain ⟨A, cx, rfl, hR⟩ := hN
  have N4 := Lib.hid (hF4.blk hN3 (by omega))
  have F4 := Lib.hid (hF4.blk hF3 (by omega))
  have B4 := Lib.hid (Fr.below ((Fr.of_below (c := fun k => k = w2.heap.size) (Below.refl w.heap.size w)).trans (Fr.refl _ w)) (Nat.le_refl _) (fun k hk => by omega))
  have C4 := Lib.hid (show Below w.heap.size w w4 from hB3.trans (hF4.below hB3.size (fun k hk => by omega)))
  have Q4 := Lib.hid (And.intro (Kd.R_lower hR (show w.heap.size + 2 ≤ w3.heap.size by have := blt hF3; omega)) (And.intro hS hP4))
  clear B4 hR hS hP4 hF4 hN3 hF3 hP3 hB3
  obtain ⟨n0, n1, n2, n3, n4⟩ := five_of N4.out
  have u0 := blk_frozen N4.out 0
  have u1 := blk_frozen N4.out 1
  have u2 := blk_frozen N4.out 2
  have u3 := blk_frozen N4.out 3
  have u4 := blk_frozen N4.out 4
  go_wp2_with fail
  have hE := Lib.hid (T2.out.2.2.2.tail.right.head)
  obtain ⟨w5, hw5, hN5, hF5, hP5, hC5, hR5⟩ : ∃ w5, ((((w4.setCell ⟨w.heap.size, 0, none⟩ (.int .i64 x.f0)).setCell ⟨w.heap.size, 1, none⟩ (.string x.f1)).setCell ⟨w.heap.size, 2, none⟩ (.int .i64 x.f2)).setCell ⟨w.heap.size, 3, none⟩ (.int .i64 x.f3)).setCell ⟨w.heap.size, 4, none⟩ (.slice A x.f4.length cx) = w5 ∧ w5.heap[w.heap.size]? = some (.cells #[.int .i64 x.f0, .string x.f1, .int .i64 x.f2, .int .i64 x.f3, .slice A x.f4.length cx] 51 (0, 0)) ∧ w5.heap[w.heap.size + 1]? = some (.cells #[.int .i64 0, .int .i64 0] 31 (0, 0)) ∧ Par w2.heap.size a c T (1 + e.toks.length) w5 ∧ Below w.heap.size w w5 ∧ RK w5 (w.heap.size + 2) (fun _ => True) (.slice A x.f4.length cx) x.f4 := by
    have hFr := five_fr (w := w4) (G := w.heap.size) (.int .i64 x.f0) (.string x.f1) (.int .i64 x.f2) (.int .i64 x.f3) (.slice A x.f4.length cx)
    exact ⟨_, rfl, five_set _ _ _ _ _ N4.out, hFr.blk F4.out (by omega), Q4.out.2.2.fr hFr (fun k hk => by have := T2.out.2.1; omega), C4.out.trans (hFr.below C4.out.size (fun k hk => by omega)), RK.fr Q4.out.1 hFr (fun k hk => .inl (by omega))⟩
  rw [hw5]
  have S4 := Lib.hid Q4.out.2.1
  clear hw5 n0 n1 n2 n3 n4 u0 u1 u2 u3 u4 N4 F4 C4 Q4
  have hj : (0 : Nat) + 1 + e.toks.length = 1 + e.toks.length := by omega
  rw [hj] at hE
  clear hj
  have q6 : ((tk T (1 + e.toks.length)).f0 == 6) = true := beq_iff_eq.2 hE.out.2.1
  have q7 : ((tk T (1 + e.toks.length)).f0 != 6) = false := by rw [bne, q6]; rfl
  refine (now_call hP5 hE.out.1).mono ?_
  rintro r w6 ⟨rfl, hb6⟩
  unfold tv
  have N6 := Lib.hid (Bel.blk hb6 hN5)
  have F6 := Lib.hid (Bel.blk hb6 hF5)
  have C6 := Lib.hid (hC5.trans (hb6.mono hC5.size))
  have R6 := Lib.hid (Kd.R_below hR5 hb6)
  clear hb6 hN5 hF5 hP5 hC5 hR5
  obtain ⟨n0, n1, n2, n3, n4⟩ := five_of N6.out
  have u0 := blk_frozen N6.out 0
  have u1 := blk_frozen N6.out 1
  have u2 := blk_frozen N6.out 2
  have u3 := blk_frozen N6.out 3
  have u4 := blk_frozen N6.out 4
  obtain ⟨f0, f1, z0, z1⟩ := two_of F6.out
  go_wp2_with fail
  obtain ⟨w7, hw7, hN7, hF7, hC7, hR7⟩ : ∃ w7, ((((((w6.setCell ⟨w.heap.size, 0, none⟩ (.int .i64 x.f0)).setCell ⟨w.heap.size, 1, none⟩ (.string x.f1)).setCell ⟨w.heap.size, 2, none⟩ (.int .i64 x.f2)).setCell ⟨w.heap.size, 3, none⟩ (.int .i64 x.f3)).setCell ⟨w.heap.size, 4, none⟩ (.slice A x.f4.length cx)).setCell ⟨w.heap.size + 1, 0, none⟩ (.int .i64 0)).setCell ⟨w.heap.size + 1, 1, none⟩ (.int .i64 0) = w7 ∧ w7.heap[w.heap.size]? = some (.cells #[.int .i64 x.f0, .string x.f1, .int .i64 x.f2, .int .i64 x.f3, .slice A x.f4.length cx] 51 (0, 0)) ∧ w7.heap[w.heap.size + 1]? = some (.cells #[.int .i64 0, .int .i64 0] 31 (0, 0)) ∧ Below w.heap.size w w7 ∧ RK w7 (w.heap.size + 2) (fun _ => True) (.slice A x.f4.length cx) x.f4 := by
    have hFr := five_fr (w := w6) (G := w.heap.size) (.int .i64 x.f0) (.string x.f1) (.int .i64 x.f2) (.int .i64 x.f3) (.slice A x.f4.length cx)
    obtain ⟨W, hW⟩ : ∃ W, ((((w6.setCell ⟨w.heap.size, 0, none⟩ (.int .i64 x.f0)).setCell ⟨w.heap.size, 1, none⟩ (.string x.f1)).setCell ⟨w.heap.size, 2, none⟩ (.int .i64 x.f2)).setCell ⟨w.heap.size, 3, none⟩ (.int .i64 x.f3)).setCell ⟨w.heap.size, 4, none⟩ (.slice A x.f4.length cx) = W := ⟨_, rfl⟩
    have hN := five_set (.int .i64 x.f0) (.string x.f1) (.int .i64 x.f2) (.int .i64 x.f3) (.slice A x.f4.length cx) N6.out
    rw [hW] at hFr hN
    rw [hW]
    have hF2 : Fr (fun k => k = w.heap.size + 1) W ((W.setCell ⟨w.heap.size + 1, 0, none⟩ (.int .i64 0)).setCell ⟨w.heap.size + 1, 1, none⟩ (.int .i64 0)) := (Fr.set (c := fun k => k = w.heap.size + 1) (p := ⟨w.heap.size + 1, 0, none⟩) rfl _).trans (Fr.set (c := fun k => k = w.heap.size + 1) (p := ⟨w.heap.size + 1, 1, none⟩) rfl _)
    refine ⟨_, rfl, hF2.blk hN (by omega), blk_put (cs := #[.int .i64 0, .int .i64 0]) (blk_put (cs := #[.int .i64 0, .int .i64 0]) (hFr.blk F6.out (by omega)) 0 _ rfl) 1 _ rfl, C6.out.trans ((hFr.below C6.out.size (fun k hk => by omega)).trans (hF2.below (Nat.le_trans C6.out.size hFr.size) (fun k hk => by omega))), RK.fr (RK.fr R6.out hFr (fun k hk => .inl (by omega))) hF2 (fun k hk => .inl (by omega))⟩
  rw [hw7]
  clear hw7 n0 n1 n2 n3 n4 u0 u1 u2 u3 u4 f0 f1 z0 z1
  refine leaves_cons (f := 16) (args := #[.pointer (some ⟨w.heap.size, 0, none⟩), .pointer (some ⟨w.heap.size + 1, 0, none⟩)]) (by simp) (by simp [go_sem]) ?_
  refine (parse_door _ _ _).mono ?_
  rintro e' u' w'' ⟨rfl, rfl, rfl⟩
  exact ⟨_, results_cc rfl _ _ w.heap.size (w.heap.size + 1) 51 31 _ _ (0, 0) (0, 0) _ _ rfl hN7 Tryz.underlying51 rfl (by kernel_rfl) rfl hF7 Tryz.underlying31 rfl (by kernel_rfl), x, _, rfl, ⟨A, cx, rfl, Kd.R_lower hR7 (by omega)⟩, S4.out, hC7⟩
end Go.Proofs.YtaoippnipcchmaaGreatDoor.PT
/- TopCode, plain: the place of a number among the constants. -/
namespace Go.Proofs.YtaoippnipcchmaaGreatDoor.PT
open Go.RowKit Go.Proofs.YtaoippnipcchmaaGreatDoorW.PrintWords Go.Proofs.YtaoippnipcchmaaGreatDoorW.PrintLast Go.Proofs.YtaoippnipcchmaaGreatDoorW.PrintMore
open Go.Proofs.YtaoippnipcchmaaGreatDoor.TP
set_option linter.unusedVariables false
set_option linter.unusedSimpArgs false

abbrev Va := S67
def vInt (n : Int) : Va := ⟨2, n, ⟨#[]⟩⟩
def valsOf (cs : List Int) : List Va := cs.map vInt
theorem valsOf_len (cs : List Int) : (valsOf cs).length = cs.length := List.length_map ..
theorem rd_vals (cs : List Int) (i : Nat) (h : i < cs.length) : rd_T67 (valsOf cs) (i : Int) = vInt (cs[i]) := by
  unfold rd_T67 valsOf
  rw [Int.toNat_natCast, List.getD_eq_getElem?_getD, List.getElem?_map, List.getElem?_eq_getElem h]
  rfl
theorem idx_l0 (cs : List Int) (n : Int) (hl : cs.length ≤ 65536) : ∀ (d k i : Nat), i + d = cs.length → d < k → (∀ j, j < i → cs[j]? ≠ some n) →
    api_Val_104.l0 k (valsOf cs) (cs.length : Int) (i : Int) 2 n ⟨#[]⟩ = some (if n ∈ cs then (cs.idxOf n : Int) else -1)
  | 0, k + 1, i, hi, _, hno => by
    have hn : n ∉ cs := fun h => by
      obtain ⟨j, hj, e⟩ := List.mem_iff_getElem.1 h
      exact hno j (by omega) (by rw [List.getElem?_eq_getElem hj, e])
    unfold api_Val_104.l0
    rw [if_neg (by omega), if_neg hn]
  | d + 1, k + 1, i, hi, hk, hno => by
    have hw : wrap64 ((i : Int) + 1) = ((i + 1 : Nat) : Int) := by unfold wrap64; omega
    have hil : i < cs.length := by omega
    unfold api_Val_104.l0
    rw [if_pos (by omega), if_pos (by omega), if_pos (by rw [valsOf_len]; omega), rd_vals cs i hil]
    by_cases he : n = cs[i]
    · have hc : ((2 : Int) == (vInt cs[i]).f0 && (n == (vInt cs[i]).f1 && ((⟨#[]⟩ : ByteArray).toList == (vInt cs[i]).f2.toList))) = true := by
        simp [vInt, he]
      rw [if_pos hc, if_pos (by rw [he]; exact List.getElem_mem hil)]
      congr 1
      have hx : cs.idxOf n = i := by
        have h1 : cs.idxOf n ≤ i := by
          rcases Nat.lt_or_ge i (cs.idxOf n) with h | h
          · have := List.not_of_lt_findIdx (p := (· == n)) (xs := cs) (i := i) h
            simp [he] at this
          · exact h
        have h2 : ¬ cs.idxOf n < i := fun h => by
          have hm : n ∈ cs := by rw [he]; exact List.getElem_mem hil
          have hlt := List.idxOf_lt_length_iff.2 hm
          exact hno _ h (by rw [List.getElem?_eq_getElem hlt, List.getElem_idxOf])
        omega
      rw [hx]
    · have hc : ¬ ((2 : Int) == (vInt cs[i]).f0 && (n == (vInt cs[i]).f1 && ((⟨#[]⟩ : ByteArray).toList == (vInt cs[i]).f2.toList))) = true := by
        simp [vInt, he]
      rw [if_neg hc, hw]
      refine idx_l0 cs n hl d k (i + 1) (by omega) (by omega) (fun j hj => ?_)
      rcases Nat.lt_or_ge j i with h | h
      · exact hno j h
      · obtain rfl : j = i := by omega
        rw [List.getElem?_eq_getElem hil]
        exact fun e => he (Option.some.inj e).symm
theorem idx_val (cs : List Int) (n : Int) (hl : cs.length ≤ 65536) : api_Val_104.f (cs.length + 1) (valsOf cs) 2 n ⟨#[]⟩ = some (if n ∈ cs then (cs.idxOf n : Int) else -1) := by
  unfold api_Val_104.f
  rw [valsOf_len]
  exact idx_l0 cs n hl cs.length (cs.length + 1) 0 (by omega) (by omega) (fun j hj => by omega)
theorem has_val (cs : List Int) (n : Int) (hl : cs.length ≤ 65536) : api_Val_80.f (cs.length + 1) (valsOf cs) 2 n ⟨#[]⟩ = some (decide (n ∈ cs)) := by
  unfold api_Val_80.f
  rw [idx_val cs n hl]
  show some (decide ((if n ∈ cs then (cs.idxOf n : Int) else -1) ≥ 0)) = _
  by_cases h : n ∈ cs
  · rw [if_pos h]; simp [h]
  · rw [if_neg h]; simp [h]
end Go.Proofs.YtaoippnipcchmaaGreatDoor.PT
/- TopCode: Parse, over Scan's contract in the worlds behind its own. -/
namespace Go.Proofs.YtaoippnipcchmaaGreatDoor.PT
open Go.RowKit Go.Proofs.YtaoippnipcchmaaGreatDoorW.PrintWords Go.Proofs.YtaoippnipcchmaaGreatDoorW.PrintLast Go.Proofs.YtaoippnipcchmaaGreatDoorW.PrintMore
open Go.Proofs.YtaoippnipcchmaaGreatDoor.TP
set_option linter.unusedVariables false
set_option linter.unusedSimpArgs false

set_option maxHeartbeats 8000000 in
set_option maxRecDepth 100000 in
theorem parse_at (e : Ex) (hok : e.ok) (src : ByteArray) (w : World) (hsc : ∀ W, Below w.heap.size w W → Calls Tryz.prog 15 #[.string src] W (ScanRes e W)) :
    Calls Tryz.prog 9 #[.string src] w fun r w' => ∃ x v, r = .returned (.tuple #[v, .agg #[.int .i64 0, .int .i64 0]]) ∧ NV w' w.heap.size x v ∧ Sh (rootOf e) x ∧ Below w.heap.size w w' := by
  have hmf : ∀ (fn : Fn) (first cap : Array Value) (w : World), (Instr.makeFunc fn first cap).run Tryz.prog w = .ok (.func fn first cap) w := fun _ _ _ _ => rfl
  have hfl := field_kd
  have HS := Lib.hid hsc
  have HO := Lib.hid hok
  clear hsc hok
  go_enter_defers Tryz.func9, Tryz.ntmps9
  go_wp2_with fail
  obtain ⟨w1, hw1, hb1, hn1, hf1, hs1⟩ : ∃ w1, (w.alloc (.cells #[.int .i64 0, .string (⟨#[]⟩ : ByteArray), .int .i64 0, .int .i64 0, .slice none 0 0] 51)).alloc (.cells #[.int .i64 0, .int .i64 0] 31) = w1 ∧ Below w.heap.size w w1 ∧ w1.heap[w.heap.size]? = some (.cells #[.int .i64 0, .string (⟨#[]⟩ : ByteArray), .int .i64 0, .int .i64 0, .slice none 0 0] 51 (0, 0)) ∧ w1.heap[w.heap.size + 1]? = some (.cells #[.int .i64 0, .int .i64 0] 31 (0, 0)) ∧ w1.heap.size = w.heap.size + 2 :=
    ⟨_, rfl, ((Below.refl _ _).alloc (Nat.le_refl _) _).alloc (by simp) _, (Below.heap_alloc _ _ _ (by simp)).trans (heap_alloc_new _ _), by have := heap_alloc_new (w.alloc (.cells #[.int .i64 0, .string (⟨#[]⟩ : ByteArray), .int .i64 0, .int .i64 0, .slice none 0 0] 51)) (.cells #[.int .i64 0, .int .i64 0] 31); simpa using this, by simp⟩
  rw [hw1]
  refine (HS.out w1 hb1).mono ?_
  rintro r w2 ⟨a, c, T, rfl, hT, ha, hl, hTk, hb2⟩
  have N2 := Lib.hid (Bel.blk hb2 hn1)
  have F2 := Lib.hid (Bel.blk hb2 hf1)
  have B2 := Lib.hid (hb1.trans (hb2.mono hb1.size))
  have T2 := Lib.hid (And.intro hT (And.intro (show w.heap.size + 2 ≤ a by omega) (And.intro hl hTk)))
  clear hw1 hb1 hn1 hf1 hs1 hb2 hT ha hl hTk
  obtain ⟨f0, f1, z0, z1⟩ := two_of F2.out
  go_wp2_with fail
  obtain ⟨w3, hw3, hN3, hF3, hP3, hB3⟩ : ∃ w3, ((w2.setCell ⟨w.heap.size + 1, 0, none⟩ (.int .i64 0)).setCell ⟨w.heap.size + 1, 1, none⟩ (.int .i64 0)).alloc (.cells #[.slice (some ⟨a, 0, none⟩) T.length c, .int .i64 0] 85) = w3 ∧ w3.heap[w.heap.size]? = some (.cells #[.int .i64 0, .string (⟨#[]⟩ : ByteArray), .int .i64 0, .int .i64 0, .slice none 0 0] 51 (0, 0)) ∧ w3.heap[w.heap.size + 1]? = some (.cells #[.int .i64 0, .int .i64 0] 31 (0, 0)) ∧ Par w2.heap.size a c T 0 w3 ∧ Below w.heap.size w w3 := by
    have hFr : Fr (fun k => k = w.heap.size + 1) w2 ((w2.setCell ⟨w.heap.size + 1, 0, none⟩ (.int .i64 0)).setCell ⟨w.heap.size + 1, 1, none⟩ (.int .i64 0)) := (Fr.set (c := fun k => k = w.heap.size + 1) (p := ⟨w.heap.size + 1, 0, none⟩) rfl _).trans (Fr.set (c := fun k => k = w.heap.size + 1) (p := ⟨w.heap.size + 1, 1, none⟩) rfl _)
    have hs : ((w2.setCell ⟨w.heap.size + 1, 0, none⟩ (.int .i64 0)).setCell ⟨w.heap.size + 1, 1, none⟩ (.int .i64 0)).heap.size = w2.heap.size := by simp
    have hal := below_alloc (Below.refl ((w2.setCell ⟨w.heap.size + 1, 0, none⟩ (.int .i64 0)).setCell ⟨w.heap.size + 1, 1, none⟩ (.int .i64 0)).heap.size ((w2.setCell ⟨w.heap.size + 1, 0, none⟩ (.int .i64 0)).setCell ⟨w.heap.size + 1, 1, none⟩ (.int .i64 0))) (.cells #[.slice (some ⟨a, 0, none⟩) T.length c, .int .i64 0] 85)
    have hnew := heap_alloc_new ((w2.setCell ⟨w.heap.size + 1, 0, none⟩ (.int .i64 0)).setCell ⟨w.heap.size + 1, 1, none⟩ (.int .i64 0)) (.cells #[.slice (some ⟨a, 0, none⟩) T.length c, .int .i64 0] 85)
    rw [hs] at hnew
    have hal2 : a < w2.heap.size := Kd.R_lt T2.out.1 a (by simp [Value.ownBlock])
    refine ⟨_, rfl, Bel.blk hal (hFr.blk N2.out (by omega)), Bel.blk hal (blk_put (cs := #[.int .i64 0, .int .i64 0]) (blk_put (cs := #[.int .i64 0, .int .i64 0]) F2.out 0 _ rfl) 1 _ rfl), ⟨hnew, Kd.R_below (Kd.R_step T2.out.1 (fun k hk hlt => hFr.block k hlt (by have := T2.out.2.1; omega))) hal, by omega, T2.out.2.2.1⟩, ?_⟩
    exact ((B2.out.setCell (p := ⟨w.heap.size + 1, 0, none⟩) (by show w.heap.size ≤ w.heap.size + 1; omega) _).setCell (p := ⟨w.heap.size + 1, 1, none⟩) (by show w.heap.size ≤ w.heap.size + 1; omega) _).alloc (by rw [hs]; exact B2.out.size) _
  rw [hw3]
  have s2 : w.heap.size + 1 < w2.heap.size := blt F2.out
  clear f0 f1 z0 z1 hw3 N2 F2 B2
  refine (block_ex e HO.out hP3 T2.out.2.2.2).mono ?_
  rintro r w4 ⟨v, x, rfl, hN, hS, hP4, hF4⟩
  obtain ⟨A, cx, rfl, hR⟩ := hN
  have N4 := Lib.hid (hF4.blk hN3 (by omega))
  have F4 := Lib.hid (hF4.blk hF3 (by omega))
  have B4 := Lib.hid (Fr.below ((Fr.of_below (c := fun k => k = w2.heap.size) (Below.refl w.heap.size w)).trans (Fr.refl _ w)) (Nat.le_refl _) (fun k hk => by omega))
  have C4 := Lib.hid (show Below w.heap.size w w4 from hB3.trans (hF4.below hB3.size (fun k hk => by omega)))
  have Q4 := Lib.hid (And.intro (Kd.R_lower hR (show w.heap.size + 2 ≤ w3.heap.size by have := blt hF3; omega)) (And.intro hS hP4))
  clear B4 hR hS hP4 hF4 hN3 hF3 hP3 hB3
  obtain ⟨n0, n1, n2, n3, n4⟩ := five_of N4.out
  have u0 := blk_frozen N4.out 0
  have u1 := blk_frozen N4.out 1
  have u2 := blk_frozen N4.out 2
  have u3 := blk_frozen N4.out 3
  have u4 := blk_frozen N4.out 4
  go_wp2_with fail
  have hE := Lib.hid (T2.out.2.2.2.tail.right.head)
  obtain ⟨w5, hw5, hN5, hF5, hP5, hC5, hR5⟩ : ∃ w5, ((((w4.setCell ⟨w.heap.size, 0, none⟩ (.int .i64 x.f0)).setCell ⟨w.heap.size, 1, none⟩ (.string x.f1)).setCell ⟨w.heap.size, 2, none⟩ (.int .i64 x.f2)).setCell ⟨w.heap.size, 3, none⟩ (.int .i64 x.f3)).setCell ⟨w.heap.size, 4, none⟩ (.slice A x.f4.length cx) = w5 ∧ w5.heap[w.heap.size]? = some (.cells #[.int .i64 x.f0, .string x.f1, .int .i64 x.f2, .int .i64 x.f3, .slice A x.f4.length cx] 51 (0, 0)) ∧ w5.heap[w.heap.size + 1]? = some (.cells #[.int .i64 0, .int .i64 0] 31 (0, 0)) ∧ Par w2.heap.size a c T (1 + e.toks.length) w5 ∧ Below w.heap.size w w5 ∧ RK w5 (w.heap.size + 2) (fun _ => True) (.slice A x.f4.length cx) x.f4 := by
    have hFr := five_fr (w := w4) (G := w.heap.size) (.int .i64 x.f0) (.string x.f1) (.int .i64 x.f2) (.int .i64 x.f3) (.slice A x.f4.length cx)
    exact ⟨_, rfl, five_set _ _ _ _ _ N4.out, hFr.blk F4.out (by omega), Q4.out.2.2.fr hFr (fun k hk => by have := T2.out.2.1; omega), C4.out.trans (hFr.below C4.out.size (fun k hk => by omega)), RK.fr Q4.out.1 hFr (fun k hk => .inl (by omega))⟩
  rw [hw5]
  have S4 := Lib.hid Q4.out.2.1
  clear hw5 n0 n1 n2 n3 n4 u0 u1 u2 u3 u4 N4 F4 C4 Q4
  have hj : (0 : Nat) + 1 + e.toks.length = 1 + e.toks.length := by omega
  rw [hj] at hE
  clear hj
  have q6 : ((tk T (1 + e.toks.length)).f0 == 6) = true := beq_iff_eq.2 hE.out.2.1
  have q7 : ((tk T (1 + e.toks.length)).f0 != 6) = false := by rw [bne, q6]; rfl
  refine (now_call hP5 hE.out.1).mono ?_
  rintro r w6 ⟨rfl, hb6⟩
  unfold tv
  have N6 := Lib.hid (Bel.blk hb6 hN5)
  have F6 := Lib.hid (Bel.blk hb6 hF5)
  have C6 := Lib.hid (hC5.trans (hb6.mono hC5.size))
  have R6 := Lib.hid (Kd.R_below hR5 hb6)
  clear hb6 hN5 hF5 hP5 hC5 hR5
  obtain ⟨n0, n1, n2, n3, n4⟩ := five_of N6.out
  have u0 := blk_frozen N6.out 0
  have u1 := blk_frozen N6.out 1
  have u2 := blk_frozen N6.out 2
  have u3 := blk_frozen N6.out 3
  have u4 := blk_frozen N6.out 4
  obtain ⟨f0, f1, z0, z1⟩ := two_of F6.out
  go_wp2_with fail
  obtain ⟨w7, hw7, hN7, hF7, hC7, hR7⟩ : ∃ w7, ((((((w6.setCell ⟨w.heap.size, 0, none⟩ (.int .i64 x.f0)).setCell ⟨w.heap.size, 1, none⟩ (.string x.f1)).setCell ⟨w.heap.size, 2, none⟩ (.int .i64 x.f2)).setCell ⟨w.heap.size, 3, none⟩ (.int .i64 x.f3)).setCell ⟨w.heap.size, 4, none⟩ (.slice A x.f4.length cx)).setCell ⟨w.heap.size + 1, 0, none⟩ (.int .i64 0)).setCell ⟨w.heap.size + 1, 1, none⟩ (.int .i64 0) = w7 ∧ w7.heap[w.heap.size]? = some (.cells #[.int .i64 x.f0, .string x.f1, .int .i64 x.f2, .int .i64 x.f3, .slice A x.f4.length cx] 51 (0, 0)) ∧ w7.heap[w.heap.size + 1]? = some (.cells #[.int .i64 0, .int .i64 0] 31 (0, 0)) ∧ Below w.heap.size w w7 ∧ RK w7 (w.heap.size + 2) (fun _ => True) (.slice A x.f4.length cx) x.f4 := by
    have hFr := five_fr (w := w6) (G := w.heap.size) (.int .i64 x.f0) (.string x.f1) (.int .i64 x.f2) (.int .i64 x.f3) (.slice A x.f4.length cx)
    obtain ⟨W, hW⟩ : ∃ W, ((((w6.setCell ⟨w.heap.size, 0, none⟩ (.int .i64 x.f0)).setCell ⟨w.heap.size, 1, none⟩ (.string x.f1)).setCell ⟨w.heap.size, 2, none⟩ (.int .i64 x.f2)).setCell ⟨w.heap.size, 3, none⟩ (.int .i64 x.f3)).setCell ⟨w.heap.size, 4, none⟩ (.slice A x.f4.length cx) = W := ⟨_, rfl⟩
    have hN := five_set (.int .i64 x.f0) (.string x.f1) (.int .i64 x.f2) (.int .i64 x.f3) (.slice A x.f4.length cx) N6.out
    rw [hW] at hFr hN
    rw [hW]
    have hF2 : Fr (fun k => k = w.heap.size + 1) W ((W.setCell ⟨w.heap.size + 1, 0, none⟩ (.int .i64 0)).setCell ⟨w.heap.size + 1, 1, none⟩ (.int .i64 0)) := (Fr.set (c := fun k => k = w.heap.size + 1) (p := ⟨w.heap.size + 1, 0, none⟩) rfl _).trans (Fr.set (c := fun k => k = w.heap.size + 1) (p := ⟨w.heap.size + 1, 1, none⟩) rfl _)
    refine ⟨_, rfl, hF2.blk hN (by omega), blk_put (cs := #[.int .i64 0, .int .i64 0]) (blk_put (cs := #[.int .i64 0, .int .i64 0]) (hFr.blk F6.out (by omega)) 0 _ rfl) 1 _ rfl, C6.out.trans ((hFr.below C6.out.size (fun k hk => by omega)).trans (hF2.below (Nat.le_trans C6.out.size hFr.size) (fun k hk => by omega))), RK.fr (RK.fr R6.out hFr (fun k hk => .inl (by omega))) hF2 (fun k hk => .inl (by omega))⟩
  rw [hw7]
  clear hw7 n0 n1 n2 n3 n4 u0 u1 u2 u3 u4 f0 f1 z0 z1
  refine leaves_cons (f := 16) (args := #[.pointer (some ⟨w.heap.size, 0, none⟩), .pointer (some ⟨w.heap.size + 1, 0, none⟩)]) (by simp) (by simp [go_sem]) ?_
  refine (parse_door _ _ _).mono ?_
  rintro e' u' w'' ⟨rfl, rfl, rfl⟩
  exact ⟨_, results_cc rfl _ _ w.heap.size (w.heap.size + 1) 51 31 _ _ (0, 0) (0, 0) _ _ rfl hN7 Tryz.underlying51 rfl (by kernel_rfl) rfl hF7 Tryz.underlying31 rfl (by kernel_rfl), x, _, rfl, ⟨A, cx, rfl, Kd.R_lower hR7 (by omega)⟩, S4.out, hC7⟩
end Go.Proofs.YtaoippnipcchmaaGreatDoor.PT
/- TopCode: the checker in memory; few, constant. -/
namespace Go.Proofs.YtaoippnipcchmaaGreatDoor.PT
open Go.RowKit Go.Proofs.YtaoippnipcchmaaGreatDoorW.PrintWords Go.Proofs.YtaoippnipcchmaaGreatDoorW.PrintLast Go.Proofs.YtaoippnipcchmaaGreatDoorW.PrintMore
open Go.Proofs.YtaoippnipcchmaaGreatDoor.TP
set_option linter.unusedVariables false
set_option linter.unusedSimpArgs false

abbrev RV (w : World) (B : Nat) (ok : Nat → Prop) (v : Value) (xs : List Va) : Prop := Kd.R k67 67 w B ok v xs
/-- The checker at block g, its scope at block s, the constants cs in the row v; all of it behind w0. -/
structure Ck (w0 : World) (g s : Nat) (vF vG : Value) (at_ : Int) (cs : List Int) (v : Value) (w : World) : Prop where
  bg : w.heap[g]? = some (.cells #[vF, vG, .pointer (some ⟨s, 0, none⟩)] 77 (0, 0))
  bs : w.heap[s]? = some (.cells #[.string ⟨#[]⟩, .int .i64 at_, .int .i64 0, .int .i64 0, v, .slice none 0 0, .int .i64 0, .slice none 0 0] 75 (0, 0))
  row : RV w w0.heap.size (fun k => k ≠ g ∧ k ≠ s) v (valsOf cs)
  b0 : Below w0.heap.size w0 w
  gs : w0.heap.size ≤ g ∧ w0.heap.size ≤ s ∧ g ≠ s
/-- What a call may have changed: the scope, the constants' row. -/
structure Adv (s : Nat) (v v' : Value) (w w' : World) : Prop where
  size : w.heap.size ≤ w'.heap.size
  block : ∀ k, k < w.heap.size → k ≠ s → v.ownBlock ≠ some k → w'.heap[k]? = w.heap[k]?
  own : v'.ownBlock = v.ownBlock ∨ ∃ b, v'.ownBlock = some b ∧ w.heap.size ≤ b
theorem Adv.of_below {s : Nat} {v : Value} {w w' : World} (h : Below w.heap.size w w') : Adv s v v w w' := ⟨h.size, fun k hk _ _ => h.block k hk, .inl rfl⟩
theorem Adv.trans {s : Nat} {v v1 v2 : Value} {w w1 w2 : World} (h : Adv s v v1 w w1) (k : Adv s v1 v2 w1 w2) : Adv s v v2 w w2 := by
  refine ⟨Nat.le_trans h.size k.size, fun i hi hs hv => ?_, ?_⟩
  · refine (k.block i (Nat.lt_of_lt_of_le hi h.size) hs (fun e => ?_)).trans (h.block i hi hs hv)
    rcases h.own with h1 | ⟨b, h1, h2⟩
    · exact hv (h1.symm.trans e)
    · rw [h1] at e
      have := Option.some.inj e
      omega
  · rcases k.own with h1 | ⟨b, h1, h2⟩
    · rcases h.own with h3 | ⟨b, h3, h4⟩
      · exact .inl (h1.trans h3)
      · exact .inr ⟨b, h1.trans h3, h4⟩
    · exact .inr ⟨b, h1, Nat.le_trans h.size h2⟩
theorem Adv.blk {s : Nat} {v v' : Value} {w w' : World} (h : Adv s v v' w w') {b : Nat} {o : Obj} (hb : w.heap[b]? = some o) (hs : b ≠ s) (hv : v.ownBlock ≠ some b) : w'.heap[b]? = some o := (h.block b (blt hb) hs hv).trans hb
section
variable {w0 w w' : World} {g s : Nat} {vF vG v : Value} {at_ : Int} {cs : List Int}
theorem Ck.below (h : Ck w0 g s vF vG at_ cs v w) (hb : Below w.heap.size w w') : Ck w0 g s vF vG at_ cs v w' := ⟨Bel.blk hb h.bg, Bel.blk hb h.bs, Kd.R_below h.row hb, h.b0.trans (hb.mono h.b0.size), h.gs⟩
theorem Ck.own (h : Ck w0 g s vF vG at_ cs v w) {k : Nat} (hk : v.ownBlock = some k) : k < w.heap.size := Kd.R_lt h.row k hk
theorem Ck.slice (h : Ck w0 g s vF vG at_ cs v w) : ∃ A c, v = .slice A cs.length c ∧ cs.length ≤ c ∧ Kd.C k67 w A cs.length (valsOf cs) := by
  obtain ⟨A, c, e, h1, h2⟩ := Kd.R_reads h.row
  rw [valsOf_len] at e h1 h2
  exact ⟨A, c, e, h1, h2⟩
end
theorem eight_of {w : World} {g : Nat} {a b c d e f h i : Value} {t : TypeId} (hk : w.heap[g]? = some (.cells #[a, b, c, d, e, f, h, i] t (0, 0))) : w.cell? ⟨g, 0, none⟩ = some a ∧ w.cell? ⟨g, 1, none⟩ = some b ∧ w.cell? ⟨g, 2, none⟩ = some c ∧ w.cell? ⟨g, 3, none⟩ = some d ∧ w.cell? ⟨g, 4, none⟩ = some e ∧ w.cell? ⟨g, 5, none⟩ = some f ∧ w.cell? ⟨g, 6, none⟩ = some h ∧ w.cell? ⟨g, 7, none⟩ = some i :=
  ⟨(blk_cell hk 0).trans rfl, (blk_cell hk 1).trans rfl, (blk_cell hk 2).trans rfl, (blk_cell hk 3).trans rfl, (blk_cell hk 4).trans rfl, (blk_cell hk 5).trans rfl, (blk_cell hk 6).trans rfl, (blk_cell hk 7).trans rfl⟩
theorem three_of {w : World} {g : Nat} {x y z : Value} {t : TypeId} (h : w.heap[g]? = some (.cells #[x, y, z] t (0, 0))) : w.cell? ⟨g, 0, none⟩ = some x ∧ w.cell? ⟨g, 1, none⟩ = some y ∧ w.cell? ⟨g, 2, none⟩ = some z :=
  ⟨(blk_cell h 0).trans rfl, (blk_cell h 1).trans rfl, (blk_cell h 2).trans rfl⟩
set_option maxHeartbeats 4000000 in
set_option maxRecDepth 100000 in
theorem few_call (x0 : Int) (x1 : ByteArray) (x2 x3 : Int) (A : Option Addr) (n c : Nat) (count most : Int) (h : count ≤ most) (w : World) :
    Calls Tryz.prog 24 #[.agg #[.int .i64 x0, .string x1, .int .i64 x2, .int .i64 x3, .slice A n c], .int .i64 count, .int .i64 most] w fun r w' => r = .returned (.tuple #[]) ∧ Below w.heap.size w w' := by
  have d1 : decide (count > most) = false := decide_eq_false (by omega)
  have d2 : decide (most < count) = false := decide_eq_false (by omega)
  clear h
  go_enter Tryz.func24, Tryz.ntmps24
  go_wp2_with fail
  go_end0
  exact ⟨rfl, below_alloc (Below.refl _ _) _⟩
theorem constant_end {w0 w W w4 : World} {g s : Nat} {vF vG : Value} {at_ : Int} {cs : List Int} {v A : Value} {n : Nat}
    (h : Ck w0 g s vF vG at_ cs v w) (hB : Below w.heap.size w W)
    (h4 : RV w4 w0.heap.size (fun k => k ≠ g ∧ k ≠ s) A (valsOf cs ++ [vInt n])) (hb4 : Below w0.heap.size w0 w4) (hg4 : W.grownBy w4 v.ownBlock)
    (hat : A.ownBlock = v.ownBlock ∨ ∃ b, A.ownBlock = some b ∧ W.heap.size ≤ b)
    (g4 : w4.heap[g]? = some (.cells #[vF, vG, .pointer (some ⟨s, 0, none⟩)] 77 (0, 0)))
    (s4 : w4.heap[s]? = some (.cells #[.string ⟨#[]⟩, .int .i64 at_, .int .i64 0, .int .i64 0, v, .slice none 0 0, .int .i64 0, .slice none 0 0] 75 (0, 0)))
    (hn : ¬ (n : Int) ∈ cs) :
    Ck w0 g s vF vG at_ (addN cs n) A (w4.setCell ⟨s, 4, none⟩ A) ∧ Adv s v A w (w4.setCell ⟨s, 4, none⟩ A) := by
  have hgs := h.gs
  refine ⟨⟨blk_far g4 hgs.2.2 A, blk_put s4 4 A rfl, ?_, ?_, hgs⟩, ⟨?_, ?_, ?_⟩⟩
  · unfold addN
    rw [if_neg hn]
    have e : valsOf (cs ++ [(n : Int)]) = valsOf cs ++ [vInt n] := by simp [valsOf]
    rw [e]
    exact Kd.R_far h4 (fun k hk => hk.2) A
  · exact hb4.setCell hgs.2.1 A
  · have := hB.size; have := hg4.size; simp; omega
  · intro k hk hks hv
    refine (Below.heap_setCell w4 ⟨s, 4, none⟩ A k hks).trans ?_
    exact (hg4.block k (Nat.lt_of_lt_of_le hk hB.size) (fun e => hv e.symm)).trans (hB.block k hk)
  · rcases hat with h1 | ⟨b, h1, h2⟩
    · exact .inl h1
    · exact .inr ⟨b, h1, Nat.le_trans hB.size h2⟩
end Go.Proofs.YtaoippnipcchmaaGreatDoor.PT
