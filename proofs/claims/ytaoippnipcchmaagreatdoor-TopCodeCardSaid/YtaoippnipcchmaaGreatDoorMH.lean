import Derived.Test.YtaoippnipcchmaaGreatDoorMD
import Derived.Deep.RegionLaw
import Derived.Laws.Strings3
import Derived.Laws.DeepStrings4
import Derived.Lib.OthersKept
import Derived.Test.YtaoippnipcchmaaGreatDoorPTx3
import Derived.Test.YtaoippnipcchmaaGreatDoorShelf
import Derived.Lib.SmallJoins
import Derived.Deep.RegionHeld3
import Derived.Test.YtaoippnipcchmaaGreatDoorPTx6
import Derived.Laws.Externs
/- TopCode: the scanner in memory; add. -/
namespace Go.Proofs.YtaoippnipcchmaaGreatDoor.PT
open Go.RowKit Go.Proofs.YtaoippnipcchmaaGreatDoorW.PrintWords Go.Proofs.YtaoippnipcchmaaGreatDoorW.PrintLast Go.Proofs.YtaoippnipcchmaaGreatDoorW.PrintMore
open Go.Proofs.YtaoippnipcchmaaGreatDoor.TP
set_option linter.unusedVariables false
set_option linter.unusedSimpArgs false

abbrev RT (w : World) (B : Nat) (ok : Nat → Prop) (v : Value) (xs : List Tk) : Prop := Kd.R k88 88 w B ok v xs
/-- The scanner at block s: its text, its place, its tokens in the row v; all of it behind w0. -/
structure Sc (w0 : World) (s : Nat) (src : ByteArray) (at_ : Nat) (T : List Tk) (v : Value) (w : World) : Prop where
  bs : w.heap[s]? = some (.cells #[.string src, .int .i64 at_, v] 99 (0, 0))
  row : RT w w0.heap.size (fun k => k ≠ s) v T
  b0 : Below w0.heap.size w0 w
  s0 : w0.heap.size ≤ s
section
variable {w0 w w' : World} {s at_ : Nat} {src : ByteArray} {T : List Tk} {v : Value}
theorem Sc.below (h : Sc w0 s src at_ T v w) (hb : Below w.heap.size w w') : Sc w0 s src at_ T v w' := ⟨Bel.blk hb h.bs, Kd.R_below h.row hb, h.b0.trans (hb.mono h.b0.size), h.s0⟩
theorem Sc.own (h : Sc w0 s src at_ T v w) {k : Nat} (hk : v.ownBlock = some k) : k < w.heap.size := Kd.R_lt h.row k hk
theorem Sc.slice (h : Sc w0 s src at_ T v w) : ∃ A c, v = .slice A T.length c ∧ T.length ≤ c ∧ Kd.C k88 w A T.length T := Kd.R_reads h.row
/-- The place is written. -/
theorem Sc.place (h : Sc w0 s src at_ T v w) (n : Nat) : Sc w0 s src n T v (w.setCell ⟨s, 1, none⟩ (.int .i64 n)) ∧ Adv s v v w (w.setCell ⟨s, 1, none⟩ (.int .i64 n)) :=
  ⟨⟨blk_put h.bs 1 _ rfl, Kd.R_far h.row (fun k hk => hk) _, h.b0.setCell h.s0 _, h.s0⟩, ⟨by simp, fun k hk hks hv => Below.heap_setCell w ⟨s, 1, none⟩ _ k hks, .inl rfl⟩⟩
end
theorem info_tok : (Tryz.prog.info? 88).map (fun i => (i.zero, i.size, i.bytes)) = some (some (.agg #[.int .i64 0, .string ⟨#[]⟩, .int .i64 0, .int .i64 0]), 4, 40) := by kernel_rfl
theorem sadd_end {w0 w W w4 : World} {s at_ : Nat} {src : ByteArray} {T : List Tk} {v A : Value} {t : Tk}
    (h : Sc w0 s src at_ T v w) (hB : Below w.heap.size w W)
    (h4 : RT w4 w0.heap.size (fun k => k ≠ s) A (T ++ [t])) (hb4 : Below w0.heap.size w0 w4) (hg4 : W.grownBy w4 v.ownBlock)
    (hat : A.ownBlock = v.ownBlock ∨ ∃ b, A.ownBlock = some b ∧ W.heap.size ≤ b)
    (s4 : w4.heap[s]? = some (.cells #[.string src, .int .i64 at_, v] 99 (0, 0))) :
    Sc w0 s src at_ (T ++ [t]) A (w4.setCell ⟨s, 2, none⟩ A) ∧ Adv s v A w (w4.setCell ⟨s, 2, none⟩ A) := by
  refine ⟨⟨blk_put s4 2 A rfl, Kd.R_far h4 (fun k hk => hk) A, hb4.setCell h.s0 A, h.s0⟩, ⟨?_, ?_, ?_⟩⟩
  · have := hB.size; have := hg4.size; simp; omega
  · intro k hk hks hv
    refine (Below.heap_setCell w4 ⟨s, 2, none⟩ A k hks).trans ?_
    exact (hg4.block k (Nat.lt_of_lt_of_le hk hB.size) (fun e => hv e.symm)).trans (hB.block k hk)
  · rcases hat with h1 | ⟨b, h1, h2⟩
    · exact .inl h1
    · exact .inr ⟨b, h1, Nat.le_trans hB.size h2⟩
set_option maxHeartbeats 8000000 in
set_option maxRecDepth 100000 in
theorem sadd_call {w0 w : World} {s at_ : Nat} {src : ByteArray} {T : List Tk} {v : Value} (h : Sc w0 s src at_ T v w) (hl : T.length < 60000) (k : Int) (t : ByteArray) (x a : Int) (n : Nat) (hn : at_ + n ≤ 65536) :
    Calls Tryz.prog 30 #[.pointer (some ⟨s, 0, none⟩), .agg #[.int .i64 k, .string t, .int .i64 x, .int .i64 a], .int .i64 n] w
      fun r w' => r = .returned (.tuple #[]) ∧ ∃ v', Sc w0 s src (at_ + n) (T ++ [⟨k, t, x, at_⟩]) v' w' ∧ Adv s v v' w w' := by
  have H := Lib.hid h
  have HL := Lib.hid (And.intro hl hn)
  obtain ⟨Av, cv, rfl, hcv, hC⟩ := h.slice
  have hmx : Tryz.prog.follows .mixedOrders = true := by kernel_rfl
  have hwr : IntKind.i64.wrap ((at_ : Int) + (n : Int)) = ((at_ + n : Nat) : Int) := by rw [Int.natCast_add]; exact IntWalk.i64_in _ (by omega)
  clear h hl hcv hC hn
  obtain ⟨w1, hw1, hb1, hn1⟩ : ∃ w1, w.alloc (.cells #[.int .i64 k, .string t, .int .i64 x, .int .i64 a] 88) = w1 ∧ Below w.heap.size w w1 ∧ w1.heap[w.heap.size]? = some (.cells #[.int .i64 k, .string t, .int .i64 x, .int .i64 a] 88 (0, 0)) := ⟨_, rfl, below_alloc (Below.refl _ _) _, heap_alloc_new _ _⟩
  have H1 := Lib.hid (H.out.below hb1)
  have B1 := Lib.hid hb1
  have N1 := Lib.hid hn1
  obtain ⟨s0, s1, s2⟩ := three_of H1.out.bs
  obtain ⟨n0, n1, n2, n3⟩ := four_of hn1
  have f3 := blk_frozen hn1 3
  clear hb1 hn1
  go_enter Tryz.func30, Tryz.ntmps30
  go_wp2_with fail
  clear hw1
  have hne : w.heap.size ≠ s := by have := blt H.out.bs; omega
  have HNE := Lib.hid hne
  obtain ⟨w2, hw2, hn2, hF2⟩ : ∃ w2, w1.setCell ⟨w.heap.size, 3, none⟩ (.int .i64 at_) = w2 ∧ w2.heap[w.heap.size]? = some (.cells #[.int .i64 k, .string t, .int .i64 x, .int .i64 at_] 88 (0, 0)) ∧ Below w.heap.size w1 w2 := ⟨_, rfl, blk_put (cs := #[.int .i64 k, .string t, .int .i64 x, .int .i64 a]) N1.out 3 _ rfl, (Below.refl _ _).setCell (p := ⟨w.heap.size, 3, none⟩) (Nat.le_refl _) _⟩
  rw [hw2]
  have B2 := Lib.hid (B1.out.trans hF2)
  have H2 := Lib.hid (H.out.below B2.out)
  have N2 := Lib.hid hn2
  clear hw2 hn2 hF2 s0 s1 s2 n0 n1 n2 n3 f3
  have B3 := Lib.hid (B2.out.trans ((below_drew1 (Below.refl w2.heap.size w2)).mono B2.out.size))
  have H3 := Lib.hid (H2.out.below (Below.refl _ _).drew)
  obtain ⟨s0, s1, s2⟩ := three_of H2.out.bs
  obtain ⟨n0, n1, n2, n3⟩ := four_of N2.out
  have sa := blk_alloc H2.out.bs (.cells #[.int .i64 k, .string t, .int .i64 x, .int .i64 at_] 88)
  obtain ⟨sa0, sa1, sa2⟩ := three_of sa
  have hbb := H2.out.b0.size
  have HK2 := Lib.hid (fun k hk => by have := blt H2.out.bs; omega : ∀ k, w2.heap.size ≤ k → k ≠ s)
  have hle : (T ++ [(⟨k, t, x, at_⟩ : Tk)]).length = T.length + 1 := by simp
  have HLE := Lib.hid hle
  clear hle sa
  go_region_law (first | (refine Kd.R_append_step k88 (w0 := w0) (W := w2.drew) w0.heap.size rfl (.tmp 15) (.tmp 17) 79 88 (.agg #[.int .i64 0, .string ⟨#[]⟩, .int .i64 0, .int .i64 0]) 40 rfl Tryz.underlying79 info_tok rfl (by decide) (by decide) (.slice Av T.length cv) T ⟨k, t, x, at_⟩ [.int .i64 k, .string t, .int .i64 x, .int .i64 at_] (fun k => k ≠ s) (fun _ => False) rfl rfl (k88_mkM _ _ _ (⟨k, t, x, at_⟩ : Tk)) (fun _ hk => hk.elim) (fun k hk => HK2.out k hk) H3.out.row H3.out.b0 hbb (by have := HL.out; omega) ?_; intro v4 w4 hR4 hB4 hg4 hat4; obtain ⟨A4, c4, e4⟩ := Kd.R_slice hR4; rw [HLE.out] at e4; subst e4; have H4 := Lib.hid (⟨hR4, hB4, hg4, hat4⟩ : _ ∧ _ ∧ _ ∧ _); have s4_ := Lib.hid ((hg4.block s (blt H3.out.bs) (fun e => (H3.out.row.1 s e.symm) rfl)).trans H3.out.bs); clear hR4 hB4 hg4 hat4; obtain ⟨sb0, sb1, sb2⟩ := three_of s4_.out; have sf := blk_frozen s4_.out 2; have sf1 := blk_frozen s4_.out 1))
  all_goals
    go_wp2_with fail
    go_end0
    have hQ := sadd_end (t := ⟨k, t, x, at_⟩) H.out B3.out H4.out.1 H4.out.2.1 H4.out.2.2.1 H4.out.2.2.2 s4_.out
    have hQ2 := hQ.1.place (at_ + n)
    exact ⟨rfl, _, hQ2.1, hQ.2.trans hQ2.2⟩
end Go.Proofs.YtaoippnipcchmaaGreatDoor.PT
/- TopCode: the scanner's run. -/
namespace Go.Proofs.YtaoippnipcchmaaGreatDoor.PT
open Go.RowKit Go.Proofs.YtaoippnipcchmaaGreatDoorW.PrintWords Go.Proofs.YtaoippnipcchmaaGreatDoorW.PrintLast Go.Proofs.YtaoippnipcchmaaGreatDoorW.PrintMore
open Go.Proofs.YtaoippnipcchmaaGreatDoor.TP
set_option linter.unusedVariables false
set_option linter.unusedSimpArgs false

theorem slice_from {src : ByteArray} {at_ : Nat} (h : at_ ≤ src.size) (w : World) : (Instr.slice 9 (.string src) (some (.int .i64 (at_ : Int))) none none).run Tryz.prog w = .ok (.string (src.extract at_ src.size)) w := by
  rw [run_slice_string_from_if (P := Tryz.prog) w _ _ _ _ Tryz.underlying9, if_pos (by omega), Int.toNat_natCast]
theorem bs_size (l : List UInt8) : (bs l).size = l.length := rfl
theorem bs_get (l : List UInt8) (i : Nat) (h : i < (bs l).size) : (bs l)[i]'h = l[i]'h := rfl
theorem ext_size {src : ByteArray} {at_ : Nat} {L : List UInt8} (h : at_ ≤ src.size) (hL : src.extract at_ src.size = bs L) : L.length = src.size - at_ := by
  have := congrArg ByteArray.size hL
  rw [ByteArray.size_extract, bs_size] at this
  omega
theorem iterPos_of {w : World} {k : Nat} {s : ByteArray} {p : Nat} (h : w.heap[k]? = some (.stringIter s p)) : w.iterPos k = p := by
  unfold World.iterPos
  rw [h]
set_option maxHeartbeats 4000000 in
set_option maxRecDepth 100000 in
theorem run_call {w0 w : World} {s at_ : Nat} {src : ByteArray} {T : List Tk} {v : Value} (h : Sc w0 s src at_ T v w) (hsz : src.size ≤ 65536) (hat : at_ ≤ src.size) (fcl : FuncId) (hcf : ∀ args w, (callFunc fcl args).run Tryz.prog w = .ok (.enter fcl args) w) (p : Nat → Bool)
    (hp : ∀ (c : Nat) (w : World), c < 128 → Calls Tryz.prog fcl #[.int .i32 c] w fun r w' => r = .returned (.bool (p c)) ∧ Below w.heap.size w w')
    (t L : List UInt8) (hL : src.extract at_ src.size = bs (t ++ L)) (hasc : ∀ b ∈ t ++ L, b.toNat < 128) (ht : ∀ b ∈ t, p b.toNat = true) (hstop : ∀ b, L.head? = some b → p b.toNat = false) :
    Calls Tryz.prog 44 #[.pointer (some ⟨s, 0, none⟩), .func (.func fcl) #[] #[]] w fun r w' => r = .returned (.int .i64 t.length) ∧ Below w.heap.size w w' := by
  obtain ⟨R, hR⟩ : ∃ R, bs (t ++ L) = R := ⟨_, rfl⟩
  have hlen := ext_size hat hL
  have hRs : R.size = (t ++ L).length := by rw [← hR]; rfl
  have hRg : ∀ i (hi : i < R.size) (hj : i < (t ++ L).length), R[i]'hi = (t ++ L)[i]'hj := by subst hR; intro i hi hj; rfl
  have HSL : ∀ W, (Instr.slice 9 (.string src) (some (.int .i64 (at_ : Int))) none none).run Tryz.prog W = .ok (.string R) W := fun W => by have := slice_from (w := W) hat; rw [hL, hR] at this; exact this
  have H := Lib.hid h
  have HP := Lib.hid hp
  have HA := Lib.hid (And.intro hasc (And.intro ht hstop))
  have HR := Lib.hid (And.intro hRs (And.intro hRg hlen))
  have hmx : Tryz.prog.follows .mixedOrders = true := by kernel_rfl
  have HSZ := Lib.hid (And.intro hsz hat)
  have hwr : IntKind.i64.wrap ((src.size : Int) - (at_ : Int)) = ((src.size - at_ : Nat) : Int) := by rw [IntWalk.i64_in _ (by omega)]; omega
  obtain ⟨s0, s1, s2⟩ := three_of h.bs
  clear h hL hR hlen hRs hRg hasc ht hstop hp hsz hat
  go_enter Tryz.func44, Tryz.ntmps44
  go_wp2_with fail
  go_still_tail 8, (by kernel_rfl)
  change wpList _ _ _ _ _ w.drew
  go_wp2_with fail
  have HI := Lib.hid (World.iter_heap w.drew R 0)
  have HIS := Lib.hid (show w.drew.heap.size = w.heap.size from rfl)
  go_loopw [5, 6] (fun v5 v6 wr => ∃ pos : Nat, wr.heap[w.heap.size]? = some (.stringIter R pos) ∧ Below w.heap.size w wr ∧ pos ≤ t.length) (fun v5 v6 wr => R.size - wr.iterPos w.heap.size)
  case atStart => exact ⟨0, HI.out, ((Below.refl _ _).drew).alloc (Nat.le_refl _) _, Nat.zero_le _⟩
  case round =>
    obtain ⟨pos, hit, hb, hle⟩ := hrel
    have hipos := iterPos_of hit
    by_cases hps : pos < R.size
    · have hj : pos < (t ++ L).length := by rw [← HR.out.1]; exact hps
      obtain ⟨c, hc⟩ : ∃ c, (R[pos]'hps).toNat = c := ⟨_, rfl⟩
      have hg := HR.out.2.1 pos hps hj
      have hc8 : c < 128 := by rw [← hc, hg]; exact HA.out.1 _ (List.getElem_mem hj)
      obtain ⟨w1, hnx, hit1, hb1⟩ : ∃ w1, (∀ ty, (Instr.next (.pointer (some ⟨w.heap.size, 0, none⟩)) true ty).run Tryz.prog wr = .ok (.tuple #[.bool true, .int .i64 pos, .int .i32 c]) w1) ∧ w1.heap[w.heap.size]? = some (.stringIter R (pos + 1)) ∧ Below w.heap.size w w1 :=
        ⟨wr.iterAt w.heap.size R (pos + 1), fun ty => by have := Lib.run_next_ascii_at (P := Tryz.prog) wr w.heap.size R pos ty hit hps (by rw [hc]; exact hc8); rw [hc] at this; exact this, Lib.iterAt_heap wr _ R pos _ hit, Lib.below_iterAt hb (Nat.le_refl _) R _⟩
      by_cases hlt : pos < t.length
      · have hpc : p c = true := by
          rw [← hc, hg, List.getElem_append_left hlt]
          exact HA.out.2.1 _ (List.getElem_mem hlt)
        have hx := HP.out c w1 hc8
        rw [hpc] at hx
        have Q := Lib.hid (And.intro hit1 (And.intro hb1 (And.intro hlt (And.intro hps hipos))))
        clear hit hb hle hipos hps hj hc hg hc8 hit1 hb1 hlt hpc
        go_wp2_with fail
        refine hx.mono ?_
        rintro r w2 ⟨rfl, hb2⟩
        have Q2 := Lib.hid (And.intro (Bel.blk hb2 Q.out.1) (Q.out.2.1.trans (hb2.mono Q.out.2.1.size)))
        clear hx hb2 hnx
        go_wp2_with fail
        go_roundw
        case rel => exact ⟨pos + 1, Q2.out.1, Q2.out.2, Q.out.2.2.1⟩
        case measure => have := iterPos_of Q2.out.1; have := Q.out.2.2.2; omega
      · have hpe : pos = t.length := by omega
        have hpc : p c = false := by
          have hg2 : (t ++ L)[pos]'hj = L[0]'(by rw [List.length_append] at hj; omega) := by
            rw [List.getElem_append_right (by omega)]
            congr 1
            omega
          rw [← hc, hg, hg2]
          exact HA.out.2.2 _ (by rw [List.head?_eq_getElem?, List.getElem?_eq_getElem (by rw [List.length_append] at hj; omega)])
        have hx := HP.out c w1 hc8
        rw [hpc] at hx
        have Q := Lib.hid (And.intro hb1 hpe)
        clear hit hb hle hipos hps hj hc hg hc8 hit1 hb1 hlt hpc hpe
        go_wp2_with fail
        refine hx.mono ?_
        rintro r w2 ⟨rfl, hb2⟩
        have Q2 := Lib.hid (Q.out.1.trans (hb2.mono Q.out.1.size))
        clear hx hb2 hnx
        go_wp2_with fail
        go_ret
        rw [Q.out.2]
        exact ⟨rfl, Q2.out⟩
    · have hnx : ∀ ty, (Instr.next (.pointer (some ⟨w.heap.size, 0, none⟩)) true ty).run Tryz.prog wr = _ := fun ty => Lib.run_next_end_at (P := Tryz.prog) wr w.heap.size R pos ty hit hps
      have hpe : t.length = src.size - at_ := by have h1 := HR.out.1; have h2 := HR.out.2.2; rw [List.length_append] at h1 h2; omega
      have HB := Lib.hid hb
      have Hr := H.out.below hb
      obtain ⟨s0, s1, s2⟩ := three_of Hr.bs
      rw [← hpe] at hwr
      clear hit hb hle hipos hps hpe Hr
      go_wp2_with fail
      go_still_tail 9, (by kernel_rfl)
      change wpList _ _ _ _ _ wr.drew
      go_wp2_with fail
      go_ret
      exact ⟨rfl, HB.out.trans ((below_drew1 (Below.refl _ _)).mono HB.out.size)⟩
end Go.Proofs.YtaoippnipcchmaaGreatDoor.PT
/- TopCode: the scanner's sorts of bytes; name. -/
namespace Go.Proofs.YtaoippnipcchmaaGreatDoor.PT
open Go.RowKit Go.Proofs.YtaoippnipcchmaaGreatDoorW.PrintWords Go.Proofs.YtaoippnipcchmaaGreatDoorW.PrintLast Go.Proofs.YtaoippnipcchmaaGreatDoorW.PrintMore
open Go.Proofs.YtaoippnipcchmaaGreatDoor.TP
set_option linter.unusedVariables false
set_option linter.unusedSimpArgs false

theorem hcf_of (f : FuncId) {fn : Func} (hf : Tryz.prog.funcs[f]? = some fn) (hname : (fn.name == "runtime.NumGoroutine") = false) (hb : fn.body.isSome = true) (args : Array Value) (w : World) : (callFunc f args).run Tryz.prog w = .ok (.enter f args) w := enters_ hf hname hb args w
def digitB (c : Nat) : Bool := decide (48 ≤ c ∧ c ≤ 57)
def letterB (c : Nat) : Bool := decide (97 ≤ c ∧ c ≤ 122 ∨ 65 ≤ c ∧ c ≤ 90 ∨ c = 95)
def partB (c : Nat) : Bool := letterB c || digitB c
def blankB (c : Nat) : Bool := decide (c = 32 ∨ c = 9 ∨ c = 10 ∨ c = 13)
theorem part_f : ∀ c : Fin 128, lex_part.f 6 ((c.val : Nat) : Int) = some (partB c.val) := by decide +kernel
theorem letter_f : ∀ c : Fin 128, lex_letter.f 6 ((c.val : Nat) : Int) = some (letterB c.val) := by decide +kernel
theorem digit_f : ∀ c : Fin 128, lex_digit.f ((c.val : Nat) : Int) = some (digitB c.val) := by decide +kernel
theorem blank_f : ∀ c : Fin 128, lex_blank.f ((c.val : Nat) : Int) = some (blankB c.val) := by decide +kernel
theorem part_call (c : Nat) (w : World) (h : c < 128) : Calls Tryz.prog 86 #[.int .i32 c] w fun r w' => r = .returned (.bool (partB c)) ∧ Below w.heap.size w w' :=
  (lex_part.calls 6 c _ w (part_f ⟨c, h⟩)).mono fun r w' hr => ⟨hr.1, hr.2.below⟩
theorem blank_call (c : Nat) (w : World) (h : c < 128) : Calls Tryz.prog 45 #[.int .i32 c] w fun r w' => r = .returned (.bool (blankB c)) ∧ Below w.heap.size w w' :=
  (lex_blank.calls c _ w (blank_f ⟨c, h⟩)).mono fun r w' hr => ⟨hr.1, hr.2.below⟩
/-- What the library's tables hold. -/
structure Tabs (w : World) : Prop where
  len : ∃ m, w.cell? ⟨4, 0, none⟩ = some (.int .i64 m)
  space : Lib.TabIs Tryz.prog w "strings.asciiSpace" .u8 Lib.asciiSpaceTab
end Go.Proofs.YtaoippnipcchmaaGreatDoor.PT
/- TopCode: the scanner's name. -/
namespace Go.Proofs.YtaoippnipcchmaaGreatDoor.PT
open Go.RowKit Go.Proofs.YtaoippnipcchmaaGreatDoorW.PrintWords Go.Proofs.YtaoippnipcchmaaGreatDoorW.PrintLast Go.Proofs.YtaoippnipcchmaaGreatDoorW.PrintMore
open Go.Proofs.YtaoippnipcchmaaGreatDoor.TP
set_option linter.unusedVariables false
set_option linter.unusedSimpArgs false

theorem Tabs.below {w w' : World} (h : Tabs w) (hb : Below w.heap.size w w') : Tabs w' := by
  obtain ⟨m, hm⟩ := h.len
  exact ⟨⟨m, (hb.cell (World.block_lt_of_cell? w _ hm)).trans hm⟩, Joins.tab_stays (show Tryz.prog.globalNamed "strings.asciiSpace" = some 0 by kernel_rfl) h.space hb (Nat.le_refl _)⟩
abbrev wordsBA : ByteArray := ⟨#[32, 97, 110, 100, 32, 98, 114, 101, 97, 107, 32, 100, 111, 32, 101, 108, 115, 101, 32, 101, 108, 115, 101, 105, 102, 32, 101, 110, 100, 32, 102, 97, 108, 115, 101, 32, 102, 111, 114, 32, 102, 117, 110, 99, 116, 105, 111, 110, 32, 105, 102, 32, 105, 110, 32, 108, 111, 99, 97, 108, 32, 110, 105, 108, 32, 110, 111, 116, 32, 111, 114, 32, 114, 101, 116, 117, 114, 110, 32, 116, 104, 101, 110, 32, 116, 114, 117, 101, 32, 119, 104, 105, 108, 101, 32]⟩
theorem slice_mid {src : ByteArray} {at_ : Nat} {t L : List UInt8} (h : at_ ≤ src.size) (hL : src.extract at_ src.size = bs (t ++ L)) (w : World) : (Instr.slice 9 (.string src) (some (.int .i64 (at_ : Int))) (some (.int .i64 ((at_ : Int) + (t.length : Int)))) none).run Tryz.prog w = .ok (.string (bs t)) w := by
  have hl := ext_size h hL
  rw [List.length_append] at hl
  rw [run_slice_string_if (P := Tryz.prog) w _ _ _ _ _ _ Tryz.underlying9, if_pos (by omega), if_pos (by omega), Int.toNat_natCast, show ((at_ : Int) + (t.length : Int)).toNat = at_ + t.length by omega]
  congr 2
  have e : src.extract at_ (at_ + t.length) = (src.extract at_ src.size).extract 0 t.length := by
    rw [ByteArray.extract_extract]
    congr 1
    omega
  rw [e, hL]
  apply ByteArray.ext
  show (ByteArray.extract (bs (t ++ L)) 0 t.length).data = _
  rw [ByteArray.data_extract]
  apply Array.ext'
  simp [bs]
set_option maxHeartbeats 4000000 in
set_option maxRecDepth 100000 in
theorem name_call {w0 w : World} {s at_ : Nat} {src : ByteArray} {T : List Tk} {v : Value} (h : Sc w0 s src at_ T v w) (hT : Tabs w) (hsz : src.size ≤ 65000) (hat : at_ ≤ src.size) (hl : T.length < 60000)
    (t L : List UInt8) (ht : t = [114, 101, 116, 117, 114, 110] ∨ t = [97, 110, 100] ∨ t = [111, 114]) (hL : src.extract at_ src.size = bs (t ++ L)) (hasc : ∀ b ∈ t ++ L, b.toNat < 128) (hstop : ∀ b, L.head? = some b → partB b.toNat = false) :
    Calls Tryz.prog 50 #[.pointer (some ⟨s, 0, none⟩)] w fun r w' => r = .returned (.tuple #[]) ∧ ∃ v', Sc w0 s src (at_ + t.length) (T ++ [⟨2, bs t, 0, at_⟩]) v' w' ∧ Adv s v v' w w' := by
  have hpart : ∀ b ∈ t, partB b.toNat = true := by rcases ht with rfl | rfl | rfl <;> decide
  have hrun := run_call h (by omega) hat 86 (hcf_of _ Tryz.func86 (by kernel_rfl) (by kernel_rfl)) partB part_call t L hL hasc hpart hstop
  have hel := ext_size hat hL
  have hsm := slice_mid hat hL
  have H := Lib.hid h
  have HT := Lib.hid (And.intro hT (And.intro hl (And.intro hsz hat)))
  have hle : t.length ≤ 6 := by rcases ht with rfl | rfl | rfl <;> decide
  have hn40 : decide ((t.length : Int) > 40) = false := decide_eq_false (by omega)
  have hn41 : decide (40 < (t.length : Int)) = false := decide_eq_false (by omega)
  have hatn : at_ + t.length ≤ 65000 := by rw [List.length_append] at hel; omega
  have hwr : IntKind.i64.wrap ((at_ : Int) + (t.length : Int)) = (at_ : Int) + (t.length : Int) := IntWalk.i64_in _ (by omega)
  have b1 : 0 ≤ (at_ : Int) + (t.length : Int) := by omega
  have b2 : (at_ : Int) ≤ (at_ : Int) + (t.length : Int) := by omega
  have b3 : (at_ : Int) + (t.length : Int) ≤ (src.size : Int) := by rw [List.length_append] at hel; omega
  have HR := Lib.hid hrun
  have hcont : Lib.contains wordsBA.data.toList ([32] ++ t ++ [32]) = true := by
    rcases ht with rfl | rfl | rfl <;> kernel_rfl
  have HC := Lib.hid (And.intro hcont hatn)
  have o1 : (9223372036854775807 < 1 + (bs t).size) = False := eq_false (by rw [bs_size]; omega)
  have o2 : (9223372036854775807 < 1 + (bs t).size + 1) = False := eq_false (by rw [bs_size]; omega)
  obtain ⟨n, hn⟩ : ∃ n, t.length = n := ⟨_, rfl⟩
  have HN := Lib.hid hn
  rw [hn] at hsm hwr hn40 hn41 hle b1 b2 b3 ⊢
  clear h hrun hl hsz hat hel hT hcont hatn ht hL hasc hstop hpart hn
  go_enter Tryz.func50, Tryz.ntmps50
  go_wp2_with fail
  have hr := HR.out
  rw [HN.out] at hr
  refine hr.mono ?_
  rintro r w1 ⟨rfl, hb1⟩
  have H1 := Lib.hid (H.out.below hb1)
  have B1 := Lib.hid hb1
  have sb := Lib.hid (blk_alloc H1.out.bs (.cells #[.int .i64 0, .string (⟨#[]⟩ : ByteArray), .int .i64 0, .int .i64 0] 88))
  obtain ⟨s0, s1, s2⟩ := three_of H1.out.bs
  obtain ⟨z0, z1, z2⟩ := three_of sb.out
  have hne : s ≠ w1.heap.size := by have := blt H1.out.bs; omega
  have hmx : Tryz.prog.follows .mixedOrders = true := by kernel_rfl
  clear hb1 hr sb
  go_wp2_with fail
  go_region_held3 (fun w' => w'.cell? ⟨s, 0, none⟩ = some (.string src) ∧ w'.cell? ⟨s, 1, none⟩ = some (.int .i64 at_))
    (first | with_reducible exact ⟨s0, s1⟩ | with_reducible exact ⟨z0, z1⟩ | go_keep) (fail)
  obtain ⟨w2, hw2, hn2, hb2⟩ : ∃ w2, (w1.alloc (.cells #[.int .i64 1, .string (bs t), .int .i64 0, .int .i64 0] 88)).drew = w2 ∧ w2.heap[w1.heap.size]? = some (.cells #[.int .i64 1, .string (bs t), .int .i64 0, .int .i64 0] 88 (0, 0)) ∧ Below w1.heap.size w1 w2 := ⟨_, rfl, blk_drew (heap_alloc_new _ _), (below_alloc (Below.refl _ _) _).drew⟩
  rw [hw2]
  have N2 := Lib.hid hn2
  have B2 := Lib.hid (B1.out.trans (hb2.mono B1.out.size))
  have HB12 := Lib.hid hb2
  obtain ⟨n0, n1, n2, n3⟩ := four_of hn2
  clear hw2 hn2 hb2 s0 s1 s2 z0 z1 z2
  go_wp2_with fail
  obtain ⟨m, hm⟩ := (HT.out.1.below B2.out).len
  have hx := Tryz.strings_Contains wordsBA (⟨#[32]⟩ ++ bs t ++ ⟨#[32]⟩) m w2 (by decide) hm
  have hsub : (⟨#[32]⟩ ++ bs t ++ ⟨#[32]⟩ : ByteArray).data.toList = [32] ++ t ++ [32] := by simp [bs]
  rw [hsub, HC.out.1] at hx
  have HX := Lib.hid hx
  have f0 := blk_frozen N2.out 0
  clear hx hsub hm
  refine HX.out.mono ?_
  rintro r w3 ⟨rfl, rfl⟩
  go_wp2_with fail
  have hb4 : Below w1.heap.size w1 (w3.setCell ⟨w1.heap.size, 0, none⟩ (.int .i64 2)) := HB12.out.setCell (p := ⟨w1.heap.size, 0, none⟩) (Nat.le_refl _) _
  refine (sadd_call (H1.out.below hb4) HT.out.2.1 2 (bs t) 0 0 n (by have := HC.out.2; rw [HN.out] at this; omega)).mono ?_
  rintro r w5 ⟨rfl, v5, hK5, hA5⟩
  have K5 := Lib.hid (And.intro hK5 ((Adv.of_below (B1.out.trans (hb4.mono B1.out.size))).trans hA5))
  clear hK5 hA5 hb4 n0 n1 n2 n3 f0
  go_wp2_with fail
  go_end0
  exact ⟨rfl, v5, K5.out.1, K5.out.2⟩
end Go.Proofs.YtaoippnipcchmaaGreatDoor.PT
/- TopCode: the scanner's sign. -/
namespace Go.Proofs.YtaoippnipcchmaaGreatDoor.PT
open Go.RowKit Go.Proofs.YtaoippnipcchmaaGreatDoorW.PrintWords Go.Proofs.YtaoippnipcchmaaGreatDoorW.PrintLast Go.Proofs.YtaoippnipcchmaaGreatDoorW.PrintMore
open Go.Proofs.YtaoippnipcchmaaGreatDoor.TP
set_option linter.unusedVariables false
set_option linter.unusedSimpArgs false

def signsL : List (List UInt8) := [[61, 61], [126, 61], [60, 61], [62, 61], [47, 47], [46, 46], [43], [45], [42], [37], [60], [62], [61], [35], [40], [41], [123], [125], [91], [93], [59], [44], [46]]
abbrev signsBA : ByteArray := ⟨#[61, 61, 32, 126, 61, 32, 60, 61, 32, 62, 61, 32, 47, 47, 32, 46, 46, 32, 43, 32, 45, 32, 42, 32, 37, 32, 60, 32, 62, 32, 61, 32, 35, 32, 40, 32, 41, 32, 123, 32, 125, 32, 91, 32, 93, 32, 59, 32, 44, 32, 46]⟩
theorem fields_signs : Lib.fields signsBA.data.toList = signsL := by kernel_rfl
theorem signs_ascii (j : Nat) (b : UInt8) (h : signsBA.data.toList[j]? = some b) : b.toNat < 128 := by
  have ha : signsBA.data.toList.all (fun b => decide (b.toNat < 128)) = true := by decide
  exact of_decide_eq_true (List.all_eq_true.1 ha b (List.mem_of_getElem? h))
theorem pre_one (c x : UInt8) (L : List UInt8) : strings_HasPrefix.f (bs (c :: L)) (bs [x]) = some (c == x) := by
  unfold strings_HasPrefix.f stringslite_HasPrefix.f
  rw [if_pos (by rw [bs_size, bs_size]; simp; omega), if_pos (by omega), if_pos (by rw [bs_size, bs_size]; simp; omega)]
  show some _ = _
  have e : (((bs [x]).size : Nat) : Int).toNat = 1 := rfl
  rw [e]
  congr 1
  rw [toList_data, toList_data, ByteArray.data_extract]
  simp [bs]
theorem pre_no {c : UInt8} {l : List UInt8} (h : l = [] ∨ l.head? ≠ some c) (hl : l ≠ []) (L : List UInt8) : strings_HasPrefix.f (bs (c :: L)) (bs l) = some false := by
  have hh : l.head? ≠ some c := h.resolve_left hl
  unfold strings_HasPrefix.f stringslite_HasPrefix.f
  split
  · rename_i hge
    show some _ = _
    congr 1
    have e : (((bs l).size : Nat) : Int).toNat = l.length := rfl
    rw [e, toList_data, toList_data, ByteArray.data_extract]
    cases l with
    | nil => exact absurd rfl hl
    | cons x m =>
      have hne : x ≠ c := fun e => hh (by rw [e]; rfl)
      simp [bs]
      intro e
      exact absurd e.symm hne
  · rfl
def noPre (c : UInt8) (l : List UInt8) : Bool := l != [] && l.head? != some c
theorem pre_noB {c : UInt8} {l : List UInt8} (h : noPre c l = true) (L : List UInt8) : strings_HasPrefix.f (bs (c :: L)) (bs l) = some false := by
  unfold noPre at h
  simp at h
  exact pre_no (.inr h.2) h.1 L
theorem sign_cell {w : World} (i : Nat) (l : List UInt8) (hi : signsL[i]? = some l) (t : TypeId) : (w.alloc (.cells ((signsL.map fun l => Value.string ⟨l.toArray⟩).toArray) t)).cell? ⟨w.heap.size, i, none⟩ = some (.string (bs l)) := by
  rw [blk_cell (heap_alloc_new w (.cells ((signsL.map fun l => Value.string ⟨l.toArray⟩).toArray) t)) i]
  simp [hi, bs]
set_option maxHeartbeats 4000000 in
set_option maxRecDepth 100000 in
theorem sign_call {w0 w : World} {s at_ : Nat} {src : ByteArray} {T : List Tk} {v : Value} (h : Sc w0 s src at_ T v w) (hT : Tabs w) (hsz : src.size ≤ 65000) (hat : at_ ≤ src.size) (hl : T.length < 60000)
    (c : UInt8) (L : List UInt8) (hL : src.extract at_ src.size = bs (c :: L)) (k : Nat) (hk : signsL[k]? = some [c]) (hno : ∀ i, i < k → noPre c (signsL.getD i []) = true) :
    Calls Tryz.prog 54 #[.pointer (some ⟨s, 0, none⟩)] w fun r w' => r = .returned (.tuple #[]) ∧ ∃ v', Sc w0 s src (at_ + 1) (T ++ [⟨5, bs [c], 0, at_⟩]) v' w' ∧ Adv s v v' w w' := by
  have hk23 : k < 23 := (List.getElem?_eq_some_iff.1 hk).1
  have hel := ext_size hat hL
  have hatn : at_ + 1 ≤ 65000 := by rw [List.length_cons] at hel; omega
  have HSL : ∀ W, (Instr.slice 9 (.string src) (some (.int .i64 (at_ : Int))) none none).run Tryz.prog W = .ok (.string (bs (c :: L))) W := fun W => by have := slice_from (w := W) hat; rw [hL] at this; exact this
  have hF := Tryz.strings_Fields signsBA w (by decide) signs_ascii hT.space
  rw [fields_signs] at hF
  have HF := Lib.hid hF
  have H := Lib.hid h
  have HT := Lib.hid (And.intro hl (And.intro hatn hk23))
  have HK := Lib.hid (And.intro hk hno)
  have hmx : Tryz.prog.follows .mixedOrders = true := by kernel_rfl
  clear h hT hsz hat hl hL hk hno hk23 hel hatn hF
  go_enter Tryz.func54, Tryz.ntmps54
  go_wp2_with fail
  refine HF.out.mono ?_
  rintro r w1 ⟨rfl, hw1⟩
  have hb1 : Below w.heap.size w w1 := by rw [hw1]; exact below_alloc (Below.refl _ _) _
  have hcell : ∀ i l, signsL[i]? = some l → w1.cell? ⟨w.heap.size, i, none⟩ = some (.string (bs l)) := fun i l hi => by rw [hw1]; exact sign_cell i l hi _
  have H1 := Lib.hid (And.intro (H.out.below hb1) (And.intro hb1 hcell))
  have hlen : signsL.length = 23 := rfl
  rw [hlen]
  clear hb1 hcell hw1 HF hlen
  go_wp2_with fail
  go_loopg [6] 23 (fun kq v6 wr => ∃ i : Nat, v6 = .int .i64 (i : Int) ∧ RowKit.Hid (kq + i = 23 ∧ i ≤ k ∧ Below w1.heap.size w1 wr))
  case atStart => exact ⟨0, rfl, Lib.hid ⟨rfl, Nat.zero_le _, Below.refl _ _⟩⟩
  case round =>
    obtain ⟨i, rfl, HJ⟩ := hrel
    obtain ⟨k1, rfl⟩ : ∃ k1, gk = k1 + 1 := ⟨gk - 1, by have := HJ.out; have := HT.out; omega⟩
    have c1 : decide ((i : Int) < (23 : Int)) = true := decide_eq_true (by have := HJ.out; have := HT.out; omega)
    have p1 : (0 ≤ (i : Int)) = True := eq_true (by omega)
    have q1 : ((i : Int) < (23 : Int)) = True := eq_true (by have := HJ.out; have := HT.out; omega)
    have hwr : IntKind.i64.wrap ((i : Int) + 1) = (i : Int) + 1 := IntWalk.i64_in _ (by have := HJ.out; have := HT.out; omega)
    have Hr := Lib.hid (H1.out.1.below HJ.out.2.2)
    obtain ⟨s0, s1, s2⟩ := three_of Hr.out.bs
    by_cases hik : i < k
    · obtain ⟨l, hl⟩ : ∃ l, signsL[i]? = some l := ⟨_, List.getElem?_eq_getElem (by have := HT.out.2.2; show i < 23; omega)⟩
      have hc : wr.cell? ⟨w.heap.size, i, none⟩ = some (.string (bs l)) := (HJ.out.2.2.cell (World.block_lt_of_cell? w1 _ (H1.out.2.2 i l hl))).trans (H1.out.2.2 i l hl)
      have hnp := HK.out.2 i hik
      rw [List.getD_eq_getElem?_getD, hl] at hnp
      have hx := strings_HasPrefix.calls (bs (c :: L)) (bs l) false wr.drew (pre_noB hnp L)
      have HX := Lib.hid hx
      have hik_ := Lib.hid hik
      clear hx hl hnp hik
      go_wp2_with fail
      go_still_tail 10, (by kernel_rfl)
      change wpList _ _ _ _ _ wr.drew
      go_wp2_with fail
      refine HX.out.mono ?_
      rintro r w2 ⟨rfl, hd2⟩
      have Q2 := Lib.hid (HJ.out.2.2.trans (((below_drew1 (Below.refl wr.heap.size wr)).trans hd2.below).mono HJ.out.2.2.size))
      have hsum := Lib.hid (show k1 + (i + 1) = 23 by have := HJ.out.1; omega)
      clear hd2 s0 s1 s2 hc HX
      go_wp2_with fail
      go_roundg k1
      case measure => omega
      case rel => exact ⟨i + 1, rfl, Lib.hid ⟨hsum.out, hik_.out, Q2.out⟩⟩
    · have hie : i = k := by have := HJ.out.2.1; omega
      subst hie
      have hc : wr.cell? ⟨w.heap.size, i, none⟩ = some (.string (bs [c])) := (HJ.out.2.2.cell (World.block_lt_of_cell? w1 _ (H1.out.2.2 i _ HK.out.1))).trans (H1.out.2.2 i _ HK.out.1)
      have hx := strings_HasPrefix.calls (bs (c :: L)) (bs [c]) true wr.drew (by rw [pre_one]; simp)
      have HX := Lib.hid hx
      have hbz : (bs [c]).size = 1 := rfl
      clear hx hik
      go_wp2_with fail
      go_still_tail 10, (by kernel_rfl)
      change wpList _ _ _ _ _ wr.drew
      go_wp2_with fail
      refine HX.out.mono ?_
      rintro r w2 ⟨rfl, hd2⟩
      have hb2 := (below_drew1 (Below.refl wr.heap.size wr)).trans hd2.below
      have H2 := Lib.hid (Hr.out.below hb2)
      have A2 := Lib.hid (H1.out.2.1.trans ((HJ.out.2.2.trans (hb2.mono HJ.out.2.2.size)).mono H1.out.2.1.size))
      clear hd2 hb2 s0 s1 s2 hc HX
      go_wp2_with fail
      refine (sadd_call H2.out HT.out.1 5 (bs [c]) 0 0 1 (by have := HT.out.2.1; omega)).mono ?_
      rintro r w3 ⟨rfl, v3, hK3, hA3⟩
      have K3 := Lib.hid (And.intro hK3 ((Adv.of_below A2.out).trans hA3))
      clear hK3 hA3
      go_wp2_with fail
      exact bodyPost_ret (results_none (by rfl) _ _ _) rfl ⟨rfl, v3, K3.out.1, K3.out.2⟩
end Go.Proofs.YtaoippnipcchmaaGreatDoor.PT
/- TopCode: words.size of a decimal numeral. -/
namespace Go.Proofs.YtaoippnipcchmaaGreatDoor.PT
open Go.RowKit Go.Proofs.YtaoippnipcchmaaGreatDoorW.PrintWords Go.Proofs.YtaoippnipcchmaaGreatDoorW.PrintLast Go.Proofs.YtaoippnipcchmaaGreatDoorW.PrintMore
open Go.Proofs.YtaoippnipcchmaaGreatDoor.TP
set_option linter.unusedVariables false
set_option linter.unusedSimpArgs false

/-- A numeral's value. -/
def numV (t : List UInt8) : Nat := t.foldl (fun n b => 10 * n + (b.toNat - 48)) 0
theorem numV_snoc (t : List UInt8) (b : UInt8) : numV (t ++ [b]) = 10 * numV t + (b.toNat - 48) := by simp [numV, List.foldl_append]
theorem numV_aux : ∀ (t : List UInt8) (n : Nat), (∀ b ∈ t, digitB b.toNat = true) → t.foldl (fun n b => 10 * n + (b.toNat - 48)) n < (n + 1) * 10 ^ t.length
  | [], n, _ => by simp
  | b :: t, n, h => by
    have h1 := numV_aux t (10 * n + (b.toNat - 48)) (fun x hx => h x (by simp [hx]))
    have h2 := h b (by simp)
    simp only [digitB, decide_eq_true_eq] at h2
    rw [List.foldl_cons, List.length_cons, Nat.pow_succ]
    refine Nat.lt_of_lt_of_le h1 ?_
    rw [Nat.mul_comm (10 ^ t.length) 10, ← Nat.mul_assoc]
    exact Nat.mul_le_mul_right _ (by omega)
theorem numV_lt (t : List UInt8) (h : ∀ b ∈ t, digitB b.toNat = true) (hl : t.length ≤ 8) : numV t < 100000000 := by
  have h1 := numV_aux t 0 h
  have h2 : 10 ^ t.length ≤ 10 ^ 8 := Nat.pow_le_pow_right (by omega) hl
  have h3 : numV t < (0 + 1) * 10 ^ t.length := h1
  omega
theorem word_digit : ∀ c : Fin 128, digitB c.val = true → words_digit.f 5 ((c.val : Nat) : Int) = some ((c.val : Int) - 48) := by decide +kernel
theorem add64_run (x y : Nat) (w : World) : (callFunc 136 #[.int .u64 x, .int .u64 y, .int .u64 0]).run Tryz.prog w = .ok (.value (.tuple #[.int .u64 (((x : Int) + y + 0) % 18446744073709551616), .int .u64 (((x : Int) + y + 0) / 18446744073709551616)])) w := by
  rw [run_callFunc_extern Tryz.func136 (by kernel_rfl) (by kernel_rfl) (by kernel_rfl) (e := add64Entry) (by kernel_rfl), run_add64 x y 0 (by omega) (by omega) (by omega) (by omega)]
  rfl
/-- A numeral has no sign of a base. -/
theorem cut_no (t : List UInt8) (x : UInt8) (hx : digitB x.toNat = false) (h : ∀ b ∈ t, digitB b.toNat = true) : strings_CutPrefix.f (bs t) (bs [48, x]) = some (bs t, false) := by
  have hp : stringslite_HasPrefix.f (bs t) (bs [48, x]) = some false := by
    unfold stringslite_HasPrefix.f
    split
    · rename_i hge
      have e : (((bs [48, x]).size : Nat) : Int).toNat = 2 := rfl
      show some _ = _
      congr 1
      rw [e, toList_data, toList_data, ByteArray.data_extract]
      match t, h with
      | [], _ => rfl
      | [a], _ => simp [bs]
      | a :: b :: m, h =>
        have hb : b ≠ x := fun e => by
          have := h b (by simp)
          rw [e, hx] at this
          cases this
        simp [bs]
        intro _
        exact hb
    · rfl
  unfold strings_CutPrefix.f stringslite_CutPrefix.f
  rw [hp]
  rfl
attribute [local go_sem] max2_int min2_int max_two min_two max_three min_three max_four min_four
set_option maxHeartbeats 4000000 in
set_option maxRecDepth 100000 in
theorem size_call (t : List UInt8) (ht : ∀ b ∈ t, digitB b.toNat = true) (h0 : t ≠ []) (hl : t.length ≤ 8) (w : World) :
    Calls Tryz.prog 122 #[.string (bs t)] w fun r w' => r = .returned (.tuple #[.int .u64 (numV t : Nat), .bool false]) ∧ Below w.heap.size w w' := by
  have hc1 := Lib.hid (fun W => strings_CutPrefix.calls (bs t) (bs [48, 120]) (bs t) false W (cut_no t 120 rfl ht))
  have hc2 := Lib.hid (fun W => strings_CutPrefix.calls (bs t) (bs [48, 88]) (bs t) false W (cut_no t 88 rfl ht))
  obtain ⟨R, hR⟩ : ∃ R, bs t = R := ⟨_, rfl⟩
  have hRs : R.size = t.length := by rw [← hR]; rfl
  have hRg : ∀ i (hi : i < R.size) (hj : i < t.length), R[i]'hi = t[i]'hj := by subst hR; intro i hi hj; rfl
  have hne : (R.toList == []) = false := by
    rw [← hR, toList_data]
    cases t with
    | nil => exact absurd rfl h0
    | cons a m => rfl
  rw [hR] at hc1 hc2 ⊢
  have HR := Lib.hid (And.intro hRs hRg)
  have HT := Lib.hid (And.intro ht hl)
  clear hRs hRg ht h0 hl hR
  go_enter Tryz.func122, Tryz.ntmps122
  go_wp2_with fail
  refine (hc1.out w).mono ?_
  rintro r w1 ⟨rfl, hd1⟩
  have B1 := Lib.hid hd1.below
  clear hd1
  go_wp2_with fail
  refine (hc2.out w1).mono ?_
  rintro r w2 ⟨rfl, hd2⟩
  have B2 := Lib.hid (B1.out.trans (hd2.below.mono B1.out.size))
  clear hd2
  go_wp2_with fail
  have HI := Lib.hid (World.iter_heap w2 R 0)
  go_loopw [2] (fun v2 wr => ∃ pos : Nat, v2 = .int .u64 (numV (t.take pos) : Nat) ∧ wr.heap[w2.heap.size]? = some (.stringIter R pos) ∧ Below w2.heap.size w2 wr ∧ pos ≤ t.length) (fun v2 wr => R.size - wr.iterPos w2.heap.size)
  case atStart => exact ⟨0, rfl, HI.out, (Below.refl _ _).alloc (Nat.le_refl _) _, Nat.zero_le _⟩
  case round =>
    obtain ⟨pos, rfl, hit, hb, hle⟩ := hrel
    have hipos := iterPos_of hit
    by_cases hps : pos < R.size
    · have hj : pos < t.length := by rw [← HR.out.1]; exact hps
      obtain ⟨c, hc⟩ : ∃ c, (R[pos]'hps).toNat = c := ⟨_, rfl⟩
      have hg := HR.out.2 pos hps hj
      have hdg : digitB c = true := by rw [← hc, hg]; exact HT.out.1 _ (List.getElem_mem hj)
      have hc48 : 48 ≤ c ∧ c ≤ 57 := by simpa [digitB] using hdg
      have hc8 : c < 128 := by omega
      obtain ⟨w3, hnx, hit3, hb3⟩ : ∃ w3, (∀ ty, (Instr.next (.pointer (some ⟨w2.heap.size, 0, none⟩)) true ty).run Tryz.prog wr = .ok (.tuple #[.bool true, .int .i64 pos, .int .i32 c]) w3) ∧ w3.heap[w2.heap.size]? = some (.stringIter R (pos + 1)) ∧ Below w2.heap.size w2 w3 :=
        ⟨wr.iterAt w2.heap.size R (pos + 1), fun ty => by have := Lib.run_next_ascii_at (P := Tryz.prog) wr w2.heap.size R pos ty hit hps (by rw [hc]; exact hc8); rw [hc] at this; exact this, Lib.iterAt_heap wr _ R pos _ hit, Lib.below_iterAt hb (Nat.le_refl _) R _⟩
      obtain ⟨d, hd⟩ : ∃ d, c - 48 = d := ⟨_, rfl⟩
      have hN8 : numV (t.take pos) < 100000000 := numV_lt _ (fun b hb => HT.out.1 b (List.mem_of_mem_take hb)) (by rw [List.length_take]; have := HT.out.2; omega)
      have hS : numV (t.take (pos + 1)) = 10 * numV (t.take pos) + d := by
        rw [List.take_succ_eq_append_getElem hj, numV_snoc, ← hg, hc, hd]
      obtain ⟨S, hSe⟩ : ∃ S, numV (t.take (pos + 1)) = S := ⟨_, rfl⟩
      obtain ⟨N, hNe⟩ : ∃ N, numV (t.take pos) = N := ⟨_, rfl⟩
      obtain ⟨M, hM⟩ : ∃ M, N * 10 = M := ⟨_, rfl⟩
      rw [hNe] at hN8 hS
      rw [hSe] at hS
      have hx : Calls Tryz.prog 134 #[.int .i32 c] w3 fun r w' => r = .returned (.int .i64 d) ∧ Drawn0 w3 w' := by
        have := words_digit.calls 5 c ((c : Int) - 48) w3 (word_digit ⟨c, hc8⟩ hdg)
        rw [show (c : Int) - 48 = (d : Int) by omega] at this
        exact this
      have hmul : ∀ W, Calls Tryz.prog 135 #[.int .u64 N, .int .u64 10] W fun r w' => r = .returned (.tuple #[.int .u64 0, .int .u64 M]) ∧ w' = W := fun W => by
        have := Tryz.bits_Mul64 N 10 (by omega) (by omega) W
        rw [show N * 10 / 18446744073709551616 = 0 by omega, show N * 10 % 18446744073709551616 = M by omega] at this
        exact this
      have hadd : ∀ W, (callFunc 136 #[.int .u64 M, .int .u64 d, .int .u64 0]).run Tryz.prog W = .ok (.value (.tuple #[.int .u64 S, .int .u64 0])) W := fun W => by
        have := add64_run M d W
        rw [show ((M : Int) + d + 0) % 18446744073709551616 = (S : Int) by omega, show ((M : Int) + d + 0) / 18446744073709551616 = 0 by omega] at this
        exact this
      have d1 : decide ((d : Int) < 0) = false := decide_eq_false (by omega)
      have d2 : decide ((d : Int) > 9) = false := decide_eq_false (by omega)
      have d3 : decide (9 < (d : Int)) = false := decide_eq_false (by omega)
      have hwu : IntKind.u64.wrap (d : Int) = (d : Int) := IntWalk.u64_in _ (by omega)
      have Q := Lib.hid (And.intro hit3 (And.intro hb3 (And.intro hj (And.intro hps (And.intro hipos (And.intro hSe (show N ≤ S by omega)))))))
      have HM := Lib.hid hmul
      clear hit hb hle hipos hps hj hc hg hc8 hit3 hb3 hdg hc48 hd hN8 hS hSe hM hmul
      rw [hNe]
      clear hNe
      go_wp2_with fail
      refine hx.mono ?_
      rintro r w4 ⟨rfl, hd4⟩
      have Q4 := Lib.hid (And.intro (Bel.blk hd4.below Q.out.1) (Q.out.2.1.trans (hd4.below.mono Q.out.2.1.size)))
      clear hx hnx hd4
      go_wp2_with fail
      refine (HM.out w4).mono ?_
      rintro r w5 ⟨rfl, rfl⟩
      go_wp2_with fail
      obtain ⟨q1, q2, q3, q4, q5⟩ := Q.out.2.2
      refine ⟨⟨pos + 1, ?_, Q4.out.1, Q4.out.2, q1⟩, ?_⟩
      · rw [q4]
        split
        · rfl
        · congr 1
          omega
      · have := iterPos_of Q4.out.1
        omega
    · have hnx : ∀ ty, (Instr.next (.pointer (some ⟨w2.heap.size, 0, none⟩)) true ty).run Tryz.prog wr = _ := fun ty => Lib.run_next_end_at (P := Tryz.prog) wr w2.heap.size R pos ty hit hps
      have hpe : t.take pos = t := List.take_of_length_le (by have := HR.out.1; omega)
      have HB := Lib.hid (B2.out.trans (hb.mono B2.out.size))
      rw [hpe]
      clear hit hb hle hipos hps hpe
      go_wp2_with fail
      go_ret2
      exact ⟨rfl, HB.out⟩
end Go.Proofs.YtaoippnipcchmaaGreatDoor.PT
