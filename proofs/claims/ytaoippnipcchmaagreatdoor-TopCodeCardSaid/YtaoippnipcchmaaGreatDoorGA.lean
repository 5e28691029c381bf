/- TopCode: the coder in memory; add. -/
import Derived.Test.YtaoippnipcchmaaGreatDoorMD
import Derived.Laws.CopyRow
namespace Go.Proofs.YtaoippnipcchmaaGreatDoor.PT
open Go.RowKit Go.Proofs.YtaoippnipcchmaaGreatDoorW.PrintWords Go.Proofs.YtaoippnipcchmaaGreatDoorW.PrintLast Go.Proofs.YtaoippnipcchmaaGreatDoorW.PrintMore
open Go.Proofs.YtaoippnipcchmaaGreatDoor.TP
set_option linter.unusedVariables false
set_option linter.unusedSimpArgs false

abbrev Ix := S65
def ixOf (i : In) : Ix := ⟨i.op, i.a, i.b, i.c⟩
def ixs (l : List In) : List Ix := l.map ixOf
theorem ixs_len (l : List In) : (ixs l).length = l.length := List.length_map ..
abbrev RI (w : World) (B : Nat) (ok : Nat → Prop) (v : Value) (xs : List Ix) : Prop := Kd.R k65 65 w B ok v xs
/-- What of the coder does not change. -/
structure Fx where
  src : ByteArray
  vC : Value
  gl : Value
  nx : Value
  un : Value
/-- The coder at block g, its code in the row v; all of it behind w0. -/
structure Cd (w0 : World) (g : Nat) (F : Fx) (code : List In) (v : Value) (w : World) : Prop where
  bg : w.heap[g]? = some (.cells #[.string ⟨#[]⟩, .int .i64 0, .int .i64 0, F.vC, v, .string F.src, F.gl, .slice none 0 0, F.nx, F.un, .slice none 0 0, .slice none 0 0] 61 (0, 0))
  row : RI w w0.heap.size (fun k => k ≠ g) v (ixs code)
  b0 : Below w0.heap.size w0 w
  g0 : w0.heap.size ≤ g
section
variable {w0 w w' : World} {g : Nat} {F : Fx} {code : List In} {v : Value}
theorem Cd.below (h : Cd w0 g F code v w) (hb : Below w.heap.size w w') : Cd w0 g F code v w' := ⟨Bel.blk hb h.bg, Kd.R_below h.row hb, h.b0.trans (hb.mono h.b0.size), h.g0⟩
theorem Cd.own (h : Cd w0 g F code v w) {k : Nat} (hk : v.ownBlock = some k) : k < w.heap.size := Kd.R_lt h.row k hk
theorem Cd.slice (h : Cd w0 g F code v w) : ∃ A c, v = .slice A code.length c ∧ code.length ≤ c ∧ Kd.C k65 w A code.length (ixs code) := by
  obtain ⟨A, c, e, h1, h2⟩ := Kd.R_reads h.row
  rw [ixs_len] at e h1 h2
  exact ⟨A, c, e, h1, h2⟩
/-- A cell of the coder's. -/
theorem Cd.c4 (h : Cd w0 g F code v w) : w.cell? ⟨g, 4, none⟩ = some v := (blk_cell h.bg 4).trans rfl
theorem Cd.c3 (h : Cd w0 g F code v w) : w.cell? ⟨g, 3, none⟩ = some F.vC := (blk_cell h.bg 3).trans rfl
theorem Cd.c5 (h : Cd w0 g F code v w) : w.cell? ⟨g, 5, none⟩ = some (.string F.src) := (blk_cell h.bg 5).trans rfl
theorem Cd.c10 (h : Cd w0 g F code v w) : w.cell? ⟨g, 10, none⟩ = some (.slice none 0 0) := (blk_cell h.bg 10).trans rfl
end
theorem info_ins : (Tryz.prog.info? 65).map (fun i => (i.zero, i.size, i.bytes)) = some (some (.agg #[.int .i64 0, .int .i64 0, .int .i64 0, .int .i64 0]), 4, 32) := by kernel_rfl
/-- An instruction is added: the end. -/
theorem add_end {w0 w W w4 : World} {g : Nat} {F : Fx} {code : List In} {v A : Value} {i : In}
    (h : Cd w0 g F code v w) (hB : Below w.heap.size w W)
    (h4 : RI w4 w0.heap.size (fun k => k ≠ g) A (ixs code ++ [ixOf i])) (hb4 : Below w0.heap.size w0 w4) (hg4 : W.grownBy w4 v.ownBlock)
    (hat : A.ownBlock = v.ownBlock ∨ ∃ b, A.ownBlock = some b ∧ W.heap.size ≤ b)
    (g4 : w4.heap[g]? = some (.cells #[.string ⟨#[]⟩, .int .i64 0, .int .i64 0, F.vC, v, .string F.src, F.gl, .slice none 0 0, F.nx, F.un, .slice none 0 0, .slice none 0 0] 61 (0, 0))) :
    Cd w0 g F (code ++ [i]) A (w4.setCell ⟨g, 4, none⟩ A) ∧ Adv g v A w (w4.setCell ⟨g, 4, none⟩ A) := by
  refine ⟨⟨blk_put g4 4 A rfl, ?_, hb4.setCell h.g0 A, h.g0⟩, ⟨?_, ?_, ?_⟩⟩
  · have e : ixs (code ++ [i]) = ixs code ++ [ixOf i] := by simp [ixs]
    rw [e]
    exact Kd.R_far h4 (fun k hk => hk) A
  · have := hB.size; have := hg4.size; simp; omega
  · intro k hk hks hv
    refine (Below.heap_setCell w4 ⟨g, 4, none⟩ A k hks).trans ?_
    exact (hg4.block k (Nat.lt_of_lt_of_le hk hB.size) (fun e => hv e.symm)).trans (hB.block k hk)
  · rcases hat with h1 | ⟨b, h1, h2⟩
    · exact .inl h1
    · exact .inr ⟨b, h1, Nat.le_trans hB.size h2⟩
/-- What the list of operands comes to: copied into a row of three noughts. -/
def Opnd (w : World) (x : Value) (a : Int) : Prop := ∀ (W : World) (b : Nat), Below w.heap.size w W → w.heap.size ≤ b → W.heap[b]? = some (.cells #[.int .i64 0, .int .i64 0, .int .i64 0] 107 (0, 0)) →
  ∃ n W', (∀ ty, (Builtin.copy_ #[63, 63] ty #[.slice (some ⟨b, 0, none⟩) 3 3, x]).run Tryz.prog W = .ok n W') ∧ W'.heap[b]? = some (.cells #[.int .i64 a, .int .i64 0, .int .i64 0] 107 (0, 0)) ∧ Fr (fun k => k = b) W W'
theorem info_int : (Tryz.prog.info? 3).map (·.size) = some 1 := by kernel_rfl
theorem opnd_none (w : World) : Opnd w (.slice none 0 0) 0 := fun W b hb hle hk =>
  ⟨_, W, fun ty => run_copy_nil Tryz.prog W _ _ ty 3 _ _ _ Tryz.underlying63 (by have := info_int; cases hq : Tryz.prog.info? 3 with | none => simp [hq] at this | some i => rfl), hk, Fr.refl _ _⟩
theorem opnd_one {w : World} {q : Nat} {a : Int} (hq : w.cell? ⟨q, 0, none⟩ = some (.int .i64 a)) : Opnd w (.slice (some ⟨q, 0, none⟩) 1 1) a := fun W b hb hle hk =>
  ⟨_, _, fun ty => run_copy_row Tryz.prog W _ _ ty 3 b 0 3 3 ⟨q, 0, none⟩ 1 1 _ _ [.int .i64 a] Tryz.underlying63 info_int hk rfl (fun j v hj => by
      cases j with
      | zero =>
        obtain rfl : Value.int .i64 a = v := by simpa using hj
        exact (hb.cell (World.block_lt_of_cell? w _ hq)).trans hq
      | succ j => simp at hj) (by simp) (fun v hv => by simp at hv; subst hv; rfl),
    setRow_heap W b _ _ _ _ hk, ⟨rfl, rfl, rfl, by simp, fun k _ hne => setRow_other W b k _ hne⟩⟩
set_option maxHeartbeats 8000000 in
set_option maxRecDepth 100000 in
theorem add_call {w0 w : World} {g : Nat} {F : Fx} {code : List In} {v : Value} (h : Cd w0 g F code v w) (hl : code.length < 65536) (op a : Int) (x : Value) (hx : Opnd w x a) :
    Calls Tryz.prog 21 #[.pointer (some ⟨g, 0, none⟩), .int .i64 op, x] w
      fun r w' => r = .returned (.int .i64 code.length) ∧ ∃ v', Cd w0 g F (code ++ [⟨op, a, 0, 0⟩]) v' w' ∧ Adv g v v' w w' := by
  have H := Lib.hid h
  have HL := Lib.hid hl
  have HX := Lib.hid hx
  have hcl : (code.length : Int) ≤ 65536 := by omega
  obtain ⟨Av, cv, rfl, hcv, hC⟩ := h.slice
  have HC := Lib.hid (And.intro hcv hC)
  clear h hl hcv hC hx
  go_enter Tryz.func21, Tryz.ntmps21
  go_wp2_with fail
  obtain ⟨w1, hw1, hb1, hn1⟩ : ∃ w1, w.alloc (.cells #[.int .i64 0, .int .i64 0, .int .i64 0] 107) = w1 ∧ Below w.heap.size w w1 ∧ w1.heap[w.heap.size]? = some (.cells #[.int .i64 0, .int .i64 0, .int .i64 0] 107 (0, 0)) := ⟨_, rfl, below_alloc (Below.refl _ _) _, heap_alloc_new _ _⟩
  rw [hw1]
  obtain ⟨n, w2, hrun, hn2, hF2⟩ := HX.out w1 w.heap.size hb1 (Nat.le_refl _) hn1
  have hb2 : Below w.heap.size w w2 := hb1.trans (hF2.below hb1.size (fun k hk => by omega))
  have H2 := Lib.hid (H.out.below hb2)
  have B2 := Lib.hid hb2
  have hmx : Tryz.prog.follows .mixedOrders = true := by kernel_rfl
  have hwr : IntKind.i64.wrap ((code.length : Int) + 1 - 1) = (code.length : Int) := by rw [Int.add_sub_cancel]; exact IntWalk.i64_in _ (by omega)
  obtain ⟨o0, o1, o2⟩ := three_of hn2
  have g4 := H2.out.c4
  have hbb := H2.out.b0.size
  have HK2 := Lib.hid (fun k hk => by have := blt H2.out.bg; omega : ∀ k, w2.heap.size ≤ k → k ≠ g)
  have ga := Lib.hid (blk_alloc H2.out.bg (.cells #[.int .i64 op, .int .i64 a, .int .i64 0, .int .i64 0] 65))
  have ga4 : (w2.alloc (.cells #[.int .i64 op, .int .i64 a, .int .i64 0, .int .i64 0] 65)).cell? ⟨g, 4, none⟩ = some (.slice Av code.length cv) := (blk_cell ga.out 4).trans rfl
  rw [hrun]
  clear hw1 hb1 hn1 hF2 hb2 hn2 hrun
  go_wp2_with fail
  have H3 := Lib.hid (H2.out.below (Below.refl _ _).drew)
  have B3 := Lib.hid (B2.out.trans ((below_drew1 (Below.refl w2.heap.size w2)).mono B2.out.size))
  have hle : (ixs code ++ [ixOf ⟨op, a, 0, 0⟩]).length = code.length + 1 := by simp [ixs_len]
  have HLE := Lib.hid hle
  clear hle
  go_region_law (first | (refine Kd.R_append_step k65 (w0 := w0) (W := w2.drew) w0.heap.size rfl (.tmp 16) (.tmp 25) 37 65 (.agg #[.int .i64 0, .int .i64 0, .int .i64 0, .int .i64 0]) 32 rfl Tryz.underlying37 info_ins rfl (by decide) (by decide) (.slice Av code.length cv) (ixs code) (ixOf ⟨op, a, 0, 0⟩) [.int .i64 op, .int .i64 a, .int .i64 0, .int .i64 0] (fun k => k ≠ g) (fun _ => False) rfl rfl (k65_mkM _ _ _ (ixOf ⟨op, a, 0, 0⟩)) (fun _ hk => hk.elim) (fun k hk => HK2.out k hk) H3.out.row H3.out.b0 hbb (by rw [ixs_len]; have := HL.out; omega) ?_; intro v4 w4 hR4 hB4 hg4 hat4; obtain ⟨A4, c4, e4⟩ := Kd.R_slice hR4; rw [HLE.out] at e4; subst e4; have H4 := Lib.hid (⟨hR4, hB4, hg4, hat4⟩ : _ ∧ _ ∧ _ ∧ _); have g4_ := Lib.hid ((hg4.block g (blt H3.out.bg) (fun e => (H3.out.row.1 g e.symm) rfl)).trans H3.out.bg); clear hR4 hB4 hg4 hat4; have gb4 : w4.cell? ⟨g, 4, none⟩ = some (.slice Av code.length cv) := (blk_cell g4_.out 4).trans rfl; have gf := blk_frozen g4_.out 4))
  all_goals
    have hwr2 : IntKind.i64.wrap (((code.length + 1 : Nat) : Int) - 1) = (code.length : Int) := by rw [Int.natCast_add]; exact hwr
    go_wp2_with fail
    go_ret
    have hQ := add_end (i := ⟨op, a, 0, 0⟩) H.out B3.out H4.out.1 H4.out.2.1 H4.out.2.2.1 H4.out.2.2.2 g4_.out
    exact ⟨rfl, _, hQ.1, hQ.2⟩
end Go.Proofs.YtaoippnipcchmaaGreatDoor.PT
