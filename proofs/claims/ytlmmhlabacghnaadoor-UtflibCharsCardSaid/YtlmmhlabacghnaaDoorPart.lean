/- runes.Part: the bytes of the runes from number i on, up to j: its walk over runes.each. -/
import Derived.Test.YtlmmhlabacghnaaDoorTurned
import Derived.Test.YtlmmhlabacghnaaDoorBuilder
import Derived.Test.YtlmmhlabacghnaaDoorShelf
namespace Go.Proofs.YtlmmhlabacghnaaDoor.PR
open Go.RowKit Go.Proofs.YtlmmhlabacghnaaDoorW.PrintWords Go.Proofs.YtlmmhlabacghnaaDoorW.PrintLast Go.Proofs.YtlmmhlabacghnaaDoorW.PrintMore Go.Proofs.YtlmmhlabacghnaaDoor.RuneMath
set_option linter.unusedVariables false
set_option linter.unusedSimpArgs false

/-- The bytes of those of these runes that are asked for; the first of them has number n. -/
def partN (s : ByteArray) (i j : Int) : Nat → List R3 → List UInt8
  | _, [] => []
  | n, r :: l => (if i ≤ (n : Int) ∧ (n : Int) < j then (own3 s r).data.toList else []) ++ partN s i j (n + 1) l
theorem partN_snoc (s : ByteArray) (i j : Int) (r : R3) : ∀ (l : List R3) (n : Nat), partN s i j n (l ++ [r]) = partN s i j n l ++ (if i ≤ ((n + l.length : Nat) : Int) ∧ ((n + l.length : Nat) : Int) < j then (own3 s r).data.toList else [])
  | [], n => by simp [partN]
  | x :: l, n => by
    simp only [List.cons_append, partN, partN_snoc s i j r l (n + 1), List.append_assoc, List.length_cons]
    rw [show n + 1 + l.length = n + (l.length + 1) by omega]
theorem partN_late (s : ByteArray) (i j : Int) : ∀ (l : List R3) (n : Nat), j ≤ (n : Int) → partN s i j n l = []
  | [], _, _ => rfl
  | x :: l, n, h => by
    simp only [partN]
    rw [if_neg (by omega), partN_late s i j l (n + 1) (by omega)]
    rfl
theorem partN_append (s : ByteArray) (i j : Int) : ∀ (l m : List R3) (n : Nat), partN s i j n (l ++ m) = partN s i j n l ++ partN s i j (n + l.length) m
  | [], m, n => by simp [partN]
  | x :: l, m, n => by
    simp only [List.cons_append, partN, partN_append s i j l m (n + 1), List.append_assoc, List.length_cons]
    rw [show n + 1 + l.length = n + (l.length + 1) by omega]
def pcont (j : Int) (t : List R3) (r : R3) : Bool := decide (((t.length : Nat) : Int) + 1 < j)
theorem partN_go (s : ByteArray) (i j : Int) (l : List R3) : ∀ told, partN s i j 0 (go (pcont j) told l) = partN s i j 0 (told ++ l) := by
  induction l with
  | nil => intro told; simp [go]
  | cons r l ih =>
    intro told
    simp only [go]
    by_cases h : pcont j told r = true
    · rw [if_pos h, ih]
      simp
    · rw [if_neg h, show told ++ r :: l = (told ++ [r]) ++ l by simp, partN_append s i j (told ++ [r]) l 0, partN_late s i j l]
      · simp
      · simp only [pcont, decide_eq_true_eq] at h
        simp
        omega
theorem partN_le (s : ByteArray) (i j : Int) : ∀ (l : List R3) (n : Nat), (∀ r ∈ l, r.1 + r.2.1 ≤ s.size) → (partN s i j n l).length ≤ bytes3 l
  | [], _, _ => Nat.le_refl _
  | r :: l, n, h => by
    have ih := partN_le s i j l (n + 1) (fun x hx => h x (List.mem_cons_of_mem _ hx))
    have hz := own3_size s r (h r List.mem_cons_self)
    have e : (own3 s r).data.toList.length = r.2.1 := by rw [Array.length_toList]; exact hz
    simp only [partN, List.length_append, bytes3, List.map_cons, List.sum_cons]
    have e2 : (if i ≤ (n : Int) ∧ (n : Int) < j then (own3 s r).data.toList else []).length ≤ r.2.1 := by
      split
      · omega
      · exact Nat.zero_le _
    simp only [bytes3] at ih
    omega
theorem strCells_eq (s : ByteArray) : Lib.strCells s = Lib.byteCells s.data.toList := by
  simp [Lib.strCells, Lib.byteCells]
theorem byteCells_append (a b : List UInt8) : Lib.byteCells (a ++ b) = Lib.byteCells a ++ Lib.byteCells b := by simp [Lib.byteCells]
theorem byteCells_len (a : List UInt8) : (Lib.byteCells a).length = a.length := by simp [Lib.byteCells]

/-- A Builder is as it was where its own blocks are. -/
theorem build_move {B b : Nat} {bs : List Value} {w w' : World} (h : BuildAt B b bs w) (hb : w'.heap[b]? = w.heap[b]?) (hk : ∀ k, B ≤ k → k < w.heap.size → w'.heap[k]? = w.heap[k]?) : BuildAt B b bs w' := by
  obtain ⟨p, v, hp, hbl, hown⟩ := h
  refine ⟨p, v, hp, hb.trans hbl, own_move hown fun k hko => hk k (own_base hown k hko) ?_⟩
  obtain ⟨cells, hc⟩ := own_typed hown k hko
  exact (Array.getElem?_eq_some_iff.1 hc).1

/-- What Part's function value holds. -/
structure PartInv (s : ByteArray) (i j : Int) (ck ci cj cb cs B : Nat) (told : List R3) (w : World) : Prop where
  at_k : w.heap[ck]? = some (.cells #[.int .i64 ((told.length : Nat) : Int)] 3 (0, 0))
  at_i : w.heap[ci]? = some (.cells #[.int .i64 i] 3 (0, 0))
  at_j : w.heap[cj]? = some (.cells #[.int .i64 j] 3 (0, 0))
  str : w.heap[cs]? = some (.cells #[.string s] 9 (0, 0))
  bld : BuildAt B cb (Lib.byteCells (partN s i j 0 told)) w

set_option maxHeartbeats 1000000 in
set_option maxRecDepth 100000 in
theorem part_fn (s : ByteArray) (hs : s.size ≤ 140737488355328) (i j : Int) (r : R3) (told rest : List R3) (ck ci cj cb cs B : Nat) (w : World) (hall : told ++ r :: rest = rs s) (hne : ck ≠ ci ∧ ck ≠ cj ∧ ck ≠ cb ∧ ck ≠ cs ∧ ci ≠ cb ∧ cj ≠ cb ∧ cs ≠ cb) (hB : B ≤ w.heap.size) (hlt : ck < B ∧ ci < B ∧ cj < B ∧ cb < B ∧ cs < B) (hin : PartInv s i j ck ci cj cb cs B told w) :
    Calls Tryd.prog 53 #[.agg #[.int .i64 r.1, .int .i64 r.2.1, .int .i64 r.2.2], .pointer (some ⟨ck, 0, none⟩), .pointer (some ⟨ci, 0, none⟩), .pointer (some ⟨cj, 0, none⟩), .pointer (some ⟨cb, 0, none⟩), .pointer (some ⟨cs, 0, none⟩)] w fun e w' => e = .returned (.bool (pcont j told r)) ∧ PartInv s i j ck ci cj cb cs B (told ++ [r]) w' ∧ Frm (fun k => k = ck ∨ k = cb) B w w' := by
  obtain ⟨n1, n2, n3⟩ := scan_next s _ _ told rest r hall.symm
  rw [Nat.zero_add] at n1
  have hlen : told.length + 1 ≤ s.size := by
    have h1 := congrArg List.length hall
    have := rs_length s
    simp at h1
    omega
  have hpl : (partN s i j 0 told).length ≤ bytes3 told := partN_le s i j told 0 fun x hx => rs_fits s x (by rw [← hall]; simp [hx])
  obtain ⟨w1, hw1, g1, g2, g3⟩ : ∃ w1, w.alloc (.cells #[.int .i64 r.1, .int .i64 r.2.1, .int .i64 r.2.2] 28) = w1 ∧ w1.heap[w.heap.size]? = some (.cells #[.int .i64 r.1, .int .i64 r.2.1, .int .i64 r.2.2] 28 (0, 0)) ∧ Below w.heap.size w w1 ∧ w1.heap.size = w.heap.size + 1 :=
    ⟨_, rfl, heap_alloc_new _ _, (Below.refl _ _).alloc (Nat.le_refl _) _, by simp⟩
  obtain ⟨h1, h2, h3, h4, h5⟩ := hin
  have k1 := (g2.block ck (by omega)).trans h1
  have k2 := (g2.block ci (by omega)).trans h2
  have k3 := (g2.block cj (by omega)).trans h3
  have k4 := (g2.block cs (by omega)).trans h4
  have k5 : BuildAt B cb (Lib.byteCells (partN s i j 0 told)) w1 := build_move h5 (g2.block cb (by omega)) fun k hk hk2 => g2.block k hk2
  clear h1 h2 h3 h4 h5
  -- The tail: k counted on, and what it answers.
  have tail : ∀ (w2 : World), w2.heap[ck]? = some (.cells #[.int .i64 ((told.length : Nat) : Int)] 3 (0, 0)) → w2.heap[ci]? = some (.cells #[.int .i64 i] 3 (0, 0)) → w2.heap[cj]? = some (.cells #[.int .i64 j] 3 (0, 0)) → w2.heap[cs]? = some (.cells #[.string s] 9 (0, 0)) → BuildAt B cb (Lib.byteCells (partN s i j 0 (told ++ [r]))) w2 → Frm (fun k => k = ck ∨ k = cb) B w w2 →
      ∃ w3, w2.setCell ⟨ck, 0, none⟩ (.int .i64 (((told.length : Nat) : Int) + 1)) = w3 ∧ w3.cell? ⟨ck, 0, none⟩ = some (.int .i64 (((told.length : Nat) : Int) + 1)) ∧ w3.cell? ⟨cj, 0, none⟩ = some (.int .i64 j) ∧ PartInv s i j ck ci cj cb cs B (told ++ [r]) w3 ∧ Frm (fun k => k = ck ∨ k = cb) B w w3 := by
    intro w2 m1 m2 m3 m4 m5 m6
    have q1 := one_setCell (u := .int .i64 (((told.length : Nat) : Int) + 1)) m1
    have q2 : ∀ k, k ≠ ck → (w2.setCell ⟨ck, 0, none⟩ (.int .i64 (((told.length : Nat) : Int) + 1))).heap[k]? = w2.heap[k]? := fun k hk => Below.heap_setCell _ _ _ _ hk
    have q3 := (q2 cj (by omega)).trans m3
    refine ⟨_, rfl, cell_of_one q1, cell_of_one q3, ⟨?_, (q2 ci (by omega)).trans m2, q3, (q2 cs (by omega)).trans m4, build_move m5 (q2 cb (by omega)) fun k hk _ => q2 k (by omega)⟩, m6.trans ⟨rfl, rfl, rfl, by simp [World.setCell], fun k hk hkc => q2 k fun e => hkc (.inl e)⟩⟩
    rw [q1]
    simp
  have TAIL := Lib.hid tail
  clear tail
  have hsn := partN_snoc s i j r told 0
  rw [Nat.zero_add] at hsn
  have b1 : ((told.length : Nat) : Int) + 1 < 140737488355329 := by omega
  have b2 : 0 ≤ ((told.length : Nat) : Int) := by omega
  have c1 : (w.alloc (.cells #[.int .i64 r.1, .int .i64 r.2.1, .int .i64 r.2.2] 28)).cell? ⟨ck, 0, none⟩ = some (.int .i64 ((told.length : Nat) : Int)) := by rw [hw1]; exact cell_of_one k1
  have c2 : (w.alloc (.cells #[.int .i64 r.1, .int .i64 r.2.1, .int .i64 r.2.2] 28)).cell? ⟨ci, 0, none⟩ = some (.int .i64 i) := by rw [hw1]; exact cell_of_one k2
  have c3 : (w.alloc (.cells #[.int .i64 r.1, .int .i64 r.2.1, .int .i64 r.2.2] 28)).cell? ⟨cj, 0, none⟩ = some (.int .i64 j) := by rw [hw1]; exact cell_of_one k3
  have c4 : (w.alloc (.cells #[.int .i64 r.1, .int .i64 r.2.1, .int .i64 r.2.2] 28)).cell? ⟨cs, 0, none⟩ = some (.string s) := by rw [hw1]; exact cell_of_one k4
  have f1 : (w.alloc (.cells #[.int .i64 r.1, .int .i64 r.2.1, .int .i64 r.2.2] 28)).frozen? ⟨ck, 0, none⟩ = false := by rw [hw1]; exact free_of_one k1
  have hfr1 : Frm (fun k => k = ck ∨ k = cb) B w w1 := ⟨g2.os, g2.tape, g2.output, by omega, fun k hk _ => g2.block k (by omega)⟩
  have hskip : ¬ (i ≤ ((told.length : Nat) : Int) ∧ ((told.length : Nat) : Int) < j) → BuildAt B cb (Lib.byteCells (partN s i j 0 (told ++ [r]))) w1 := by
    intro hno
    rw [hsn, if_neg hno, List.append_nil]
    exact k5
  have P := Lib.hid (And.intro hw1 (And.intro g1 (And.intro g2 (And.intro g3 (And.intro k1 (And.intro k2 (And.intro k3 (And.intro k4 (And.intro k5 (And.intro hfr1 (And.intro hskip (And.intro hsn (And.intro n1 (And.intro n2 (And.intro n3 (And.intro hlen (And.intro hpl (And.intro hne (And.intro hlt (And.intro hB hs))))))))))))))))))))
  clear hw1 g1 g2 g3 k1 k2 k3 k4 k5 hfr1 hskip hsn n1 hlen hpl hne hlt hB hall
  by_cases hi : i ≤ ((told.length : Nat) : Int)
  · have d1 : decide (i ≤ ((told.length : Nat) : Int)) = true := decide_eq_true hi
    by_cases hj : ((told.length : Nat) : Int) < j
    · have d2 : decide (((told.length : Nat) : Int) < j) = true := decide_eq_true hj
      have s1 := slice_s s r n3
      have w4 : IntKind.i64.wrap ((r.1 : Int) + (r.2.1 : Int)) = (r.1 : Int) + (r.2.1 : Int) := IntWalk.i64_in _ (by omega)
      have n4 : (r.1 : Int) + (r.2.1 : Int) ≤ s.size := by omega
      have HI := Lib.hid (And.intro hi hj)
      clear n2 n3 hi hj
      go_enter Tryd.func53, Tryd.ntmps53
      go_wp2_with fail
      obtain ⟨hw1, g1, g2, g3, k1, k2, k3, k4, k5, hfr1, hskip, hsn, n1, n2, n3, hlen, hpl, hne, hlt, hB, hs⟩ := P.out
      rw [hw1]
      refine (write_string B cb _ (own3 s r) w1 k5 (by rw [byteCells_len, own3_size s r n3]; omega) (by omega)).mono ?_
      rintro e w2 ⟨rfl, hb2, hfr2⟩
      have m1 := (hfr2.block ck (by omega) (by omega)).trans k1
      obtain ⟨w3, y1, y2, y3, y4, y5⟩ := TAIL.out w2 m1 ((hfr2.block ci (by omega) (by omega)).trans k2) ((hfr2.block cj (by omega) (by omega)).trans k3) ((hfr2.block cs (by omega) (by omega)).trans k4) (by rw [hsn, if_pos HI.out, byteCells_append, ← strCells_eq]; exact hb2) (hfr1.trans ⟨hfr2.os, hfr2.tape, hfr2.output, hfr2.size, fun k hk hkc => hfr2.block k hk fun e => hkc (.inr e)⟩)
      have c12 := cell_of_one m1
      have f12 := free_of_one m1
      have Y := Lib.hid (And.intro y1 (And.intro y4 y5))
      clear hw1 g1 g2 g3 k1 k2 k3 k4 k5 hfr1 hskip hsn n1 n2 n3 hlen hpl hne hlt hB hs m1 hb2 hfr2 c1 c2 c3 c4 f1 s1 w4 n4 y4 y5 d1 d2 P TAIL
      go_wp2_with fail
      go_ret
      exact ⟨rfl, Y.out.2.1, Y.out.2.2⟩
    · have d2 : decide (((told.length : Nat) : Int) < j) = false := decide_eq_false hj
      obtain ⟨hw1, g1, g2, g3, k1, k2, k3, k4, k5, hfr1, hskip, hsn, n1, n2, n3, hlen, hpl, hne, hlt, hB, hs⟩ := P.out
      obtain ⟨w3, y1, y2, y3, y4, y5⟩ := TAIL.out w1 k1 k2 k3 k4 (hskip fun h => hj h.2) hfr1
      have Y := Lib.hid (And.intro hw1 (And.intro y1 (And.intro y2 (And.intro y3 (And.intro y4 y5)))))
      rw [← hw1] at y1
      clear hw1 g1 g2 g3 k1 k2 k3 k4 k5 hfr1 hskip hsn n1 hlen hpl hne hlt hB hs y4 y5 P TAIL hi hj c4 n2 n3
      go_enter Tryd.func53, Tryd.ntmps53
      go_wp2_with fail
      go_ret
      exact ⟨rfl, Y.out.2.2.2.2.1, Y.out.2.2.2.2.2⟩
  · have d1 : decide (i ≤ ((told.length : Nat) : Int)) = false := decide_eq_false hi
    obtain ⟨hw1, g1, g2, g3, k1, k2, k3, k4, k5, hfr1, hskip, hsn, n1, n2, n3, hlen, hpl, hne, hlt, hB, hs⟩ := P.out
    obtain ⟨w3, y1, y2, y3, y4, y5⟩ := TAIL.out w1 k1 k2 k3 k4 (hskip fun h => hi h.1) hfr1
    have Y := Lib.hid (And.intro hw1 (And.intro y1 (And.intro y2 (And.intro y3 (And.intro y4 y5)))))
    rw [← hw1] at y1
    clear hw1 g1 g2 g3 k1 k2 k3 k4 k5 hfr1 hskip hsn n1 hlen hpl hne hlt hB hs y4 y5 P TAIL hi c4 n2 n3
    go_enter Tryd.func53, Tryd.ntmps53
    go_wp2_with fail
    go_ret
    exact ⟨rfl, Y.out.2.2.2.2.1, Y.out.2.2.2.2.2⟩

theorem alloc_at {w : World} {o x : Obj} {k : Nat} (h : w.heap[k]? = some x) : (w.alloc o).heap[k]? = some x := (Below.heap_alloc _ _ _ (Array.getElem?_eq_some_iff.1 h).1).trans h
theorem alloc_new {w : World} {o : Obj} {n : Nat} (h : n = w.heap.size) : (w.alloc o).heap[n]? = some o := h ▸ heap_alloc_new w o

def runes_Part.f (a0 : ByteArray) (a1 a2 : Int) : Option ByteArray := if a0.size ≤ 140737488355327 then some ⟨(partN a0 a1 a2 0 (rs a0)).toArray⟩ else none

set_option maxHeartbeats 1000000 in
set_option maxRecDepth 100000 in
theorem runes_Part.calls (a0 : ByteArray) (a1 a2 : Int) (r : ByteArray) (w : World) (h : runes_Part.f a0 a1 a2 = some r) :
    Calls Tryd.prog 26 #[.string a0, .int .i64 a1, .int .i64 a2] w fun e w' => e = .returned (.string r) ∧ Below w.heap.size w w' := by
  unfold runes_Part.f at h
  split at h
  · rename_i hs
    obtain rfl := Option.some.inj h
    clear h
    have HS := Lib.hid hs
    clear hs
    go_enter Tryd.func26, Tryd.ntmps26
    go_wp2_with fail
    obtain ⟨w5, hw5, p0, p1, p2, p3, p4, p5, p6⟩ : ∃ w5, (((((w.alloc (.cells #[.string a0] 9)).alloc (.cells #[.int .i64 a1] 3)).alloc (.cells #[.int .i64 a2] 3)).alloc (.cells #[.pointer none, .slice none 0 0] 68)).alloc (.cells #[.int .i64 0] 3)) = w5 ∧
        w5.heap[w.heap.size]? = some (.cells #[.string a0] 9 (0, 0)) ∧ w5.heap[w.heap.size + 1]? = some (.cells #[.int .i64 a1] 3 (0, 0)) ∧ w5.heap[w.heap.size + 1 + 1]? = some (.cells #[.int .i64 a2] 3 (0, 0)) ∧ w5.heap[w.heap.size + 1 + 1 + 1]? = some (.cells #[.pointer none, .slice none 0 0] 68 (0, 0)) ∧ w5.heap[w.heap.size + 1 + 1 + 1 + 1]? = some (.cells #[.int .i64 0] 3 (0, 0)) ∧ w5.heap.size = w.heap.size + 5 ∧ Below w.heap.size w w5 :=
      ⟨_, rfl, alloc_at (alloc_at (alloc_at (alloc_at (alloc_new rfl)))), alloc_at (alloc_at (alloc_at (alloc_new (by simp)))), alloc_at (alloc_at (alloc_new (by simp))), alloc_at (alloc_new (by simp)), alloc_new (by simp), by simp, (((((Below.refl _ w).alloc (Nat.le_refl _) _).alloc (by simp) _).alloc (by simp; omega) _).alloc (by simp; omega) _).alloc (by simp; omega) _⟩
    rw [hw5]
    have P := Lib.hid (And.intro p0 (And.intro p1 (And.intro p2 (And.intro p3 (And.intro p4 (And.intro p5 p6))))))
    clear p0 p1 p2 p3 p4 p5 p6 hw5
    refine (each_any a0 (by have := HS.out; omega) 53 #[.pointer (some ⟨w.heap.size + 1 + 1 + 1 + 1, 0, none⟩), .pointer (some ⟨w.heap.size + 1, 0, none⟩), .pointer (some ⟨w.heap.size + 1 + 1, 0, none⟩), .pointer (some ⟨w.heap.size + 1 + 1 + 1, 0, none⟩), .pointer (some ⟨w.heap.size, 0, none⟩)] (hcf _ Tryd.func53 (by kernel_rfl) (by kernel_rfl)) w5 (PartInv a0 a1 a2 (w.heap.size + 1 + 1 + 1 + 1) (w.heap.size + 1) (w.heap.size + 1 + 1) (w.heap.size + 1 + 1 + 1) w.heap.size (w5.heap.size + 2)) (pcont a2) (fun k => k = w.heap.size + 1 + 1 + 1 + 1 ∨ k = w.heap.size + 1 + 1 + 1) ?_ ?_ ?_ ?_).mono ?_
    · obtain ⟨p0, p1, p2, p3, p4, p5, p6⟩ := P.out
      rintro k (hk | hk)
      · omega
      · omega
    · obtain ⟨p0, p1, p2, p3, p4, p5, p6⟩ := P.out
      rintro told x x' ⟨t1, t2, t3, t4, t5⟩ hsz hst
      have u1 := (Array.getElem?_eq_some_iff.1 t1).1
      have u2 := (Array.getElem?_eq_some_iff.1 t2).1
      have u3 := (Array.getElem?_eq_some_iff.1 t3).1
      have u4 := (Array.getElem?_eq_some_iff.1 t4).1
      refine ⟨(hst _ u1 (by omega) (by omega)).trans t1, (hst _ u2 (by omega) (by omega)).trans t2, (hst _ u3 (by omega) (by omega)).trans t3, (hst _ u4 (by omega) (by omega)).trans t4, build_move t5 (hst _ (by omega) (by omega) (by omega)) fun k hk1 hk2 => hst k hk2 (by omega) (by omega)⟩
    · obtain ⟨p0, p1, p2, p3, p4, p5, p6⟩ := P.out
      exact ⟨p4, p1, p2, p0, ⟨_, _, .inl rfl, p3, World.ownsRow_nil _ _ _ _⟩⟩
    · obtain ⟨p0, p1, p2, p3, p4, p5, p6⟩ := P.out
      rintro told x w3 ⟨rest, hrest⟩ hin hsz
      refine (part_fn a0 (by have := HS.out; omega) a1 a2 x told rest _ _ _ _ _ (w5.heap.size + 2) w3 hrest ⟨by omega, by omega, by omega, by omega, by omega, by omega, by omega⟩ hsz ⟨by omega, by omega, by omega, by omega, by omega⟩ hin).mono ?_
      rintro e w4 ⟨rfl, hin2, hfr⟩
      exact ⟨rfl, hin2, hfr⟩
    · rintro e w3 ⟨rfl, hin, hfr⟩
      obtain ⟨p0, p1, p2, p3, p4, p5, p6⟩ := P.out
      have hpg := partN_go a0 a1 a2 (rs a0) []
      rw [List.nil_append] at hpg
      have hb := hin.bld
      rw [hpg] at hb
      have hbel : Below w.heap.size w w3 := p6.trans (hfr.below (by omega) (fun k hk e => by rcases e with e | e <;> omega))
      have hib := build_is hb w.heap.size (by omega) (by omega)
      have hsz := hbel.size
      have Q := Lib.hid (And.intro hib (And.intro hbel hsz))
      clear p0 p1 p2 p3 p4 p5 p6 hin hpg hb hfr hib hbel hsz P
      go_wp2_with fail
      refine (Tryd.Builder_String_any w.heap.size (w.heap.size + 1 + 1 + 1) _ w3 Q.out.1 Q.out.2.2).mono ?_
      rintro e w4 ⟨rfl, hbel4⟩
      have Q2 := Lib.hid hbel4
      clear hbel4
      go_wp2_with fail
      go_ret
      exact ⟨rfl, Q.out.2.1.trans Q2.out⟩
  · cases h
end Go.Proofs.YtlmmhlabacghnaaDoor.PR
