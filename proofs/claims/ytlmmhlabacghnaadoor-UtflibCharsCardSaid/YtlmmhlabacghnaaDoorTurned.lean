/- runes.Turned: the runes from the last one to the first, each with its own bytes: its walk over runes.each. -/
import Derived.Test.YtlmmhlabacghnaaDoorList
import Derived.Laws.CopyOwn
import Derived.Deep.RegionLaw
import Derived.Lib.AppendStr
import Derived.Outline
import Derived.WalkSpells
import Derived.Laws.DeepStrings4
import Derived.IntWalk
import Derived.StillTailTactics
namespace Go
section
variable {P : Program} {ops : Array Oper} {o : Oper} {a : Act} {w : World} {K : Act → World → Prop} {Q : Exit → Act → World → Prop} {E : Prop}
/-- copy(dst, s), s a string no longer than dst, dst in a row known whole: the run. -/
theorem run_copy_str_Tryd (w : World) (dT sT ty elem : TypeId) (g off dLen dCap : Nat) (s : ByteArray) (cur : Array Value) (t : TypeId)
    (hu : P.underlying dT = some (.slice elem)) (hs : (P.info? elem).map (·.size) = some 1)
    (hg : w.heap[g]? = some (.cells cur t (0, 0))) (hn : s.size ≤ dLen) (hfit : off + s.size ≤ cur.size) :
    (Builtin.copy_ #[dT, sT] ty #[.slice (some ⟨g, off, none⟩) dLen dCap, .string s]).run P w = .ok (goInt s.size) (w.setRow g (cur.toList.take off ++ Lib.strCells s ++ cur.toList.drop (off + (Lib.strCells s).length)).toArray) := by
  have hm : Nat.min s.size dLen = s.size := Nat.min_eq_left hn
  have hl : (Lib.strCells s).length = s.size := by simp [Lib.strCells]
  have hst := run_storeCells_at P g off t (Lib.strCells s) 0 cur w hg (by rw [hl]; simpa using hfit) (by intro v hv; simp [Lib.strCells] at hv; obtain ⟨b, _, rfl⟩ := hv; rfl)
  have hf := Lib.run_firstCells_string (P := P) w 1 s
  cases hq : P.info? elem with
  | none => simp [hq] at hs
  | some i =>
    have hi : i.size = 1 := by simpa [hq] using hs
    simp [Builtin.copy_, run_underlying hu, Builtin.lenOf, sizeOf, typeInfo, hq, hi, hm, hf, hst]

theorem wpList_copy_str_Tryd {rest : List Oper} (hgd : o.guard = none) (d s : Operand) (dT sT : TypeId)
    (ho : o.op = .call { callee := .builtin .copy, args := #[d, s], argTypes := #[dT, sT] }) (elem : TypeId) (hu : P.underlying dT = some (.slice elem)) (hsz : (P.info? elem).map (·.size) = some 1)
    (g off dLen dCap : Nat) (x : ByteArray) (hd : a.eval d = .slice (some ⟨g, off, none⟩) dLen dCap) (hs : a.eval s = .string x)
    (cur : Array Value) (t : TypeId) (hg : w.heap[g]? = some (.cells cur t (0, 0))) (hn : x.size ≤ dLen) (hfit : off + x.size ≤ cur.size)
    (h : wpList P ops Q rest (a.put o.dst (goInt x.size)) (w.setRow g (cur.toList.take off ++ Lib.strCells x ++ cur.toList.drop (off + (Lib.strCells x).length)).toArray)) : wpList P ops Q (o :: rest) a w := by
  refine wpList_plain hgd fun K hK => ?_
  have hrun := run_copy_str_Tryd (P := P) w dT sT o.type elem g off dLen dCap x cur t hu hsz hg hn hfit
  unfold Oper.wp
  simp [execOp, ho, resolve, invoke, builtin, hd, hs, hrun, Result.andThen]
  refine hK _ _ ?_
  simpa using h
end
end Go
namespace Go.Proofs.YtlmmhlabacghnaaDoor.PR
open Go.RowKit Go.Proofs.YtlmmhlabacghnaaDoorW.PrintWords Go.Proofs.YtlmmhlabacghnaaDoorW.PrintLast Go.Proofs.YtlmmhlabacghnaaDoorW.PrintMore Go.Proofs.YtlmmhlabacghnaaDoor.RuneMath
set_option linter.unusedVariables false
set_option linter.unusedSimpArgs false

/-- How many bytes these runes have. -/
def bytes3 (l : List R3) : Nat := (l.map (·.2.1)).sum
theorem bytes3_snoc (l : List R3) (r : R3) : bytes3 (l ++ [r]) = bytes3 l + r.2.1 := by simp [bytes3]
theorem scan_next (s : ByteArray) : ∀ f p (pre suf : List R3) (r : R3), scan s f p = pre ++ r :: suf → r.1 = p + bytes3 pre ∧ 1 ≤ r.2.1 ∧ r.1 + r.2.1 ≤ s.size
  | 0, p, pre, suf, r, h => by
    cases pre with
    | nil => simp [scan] at h
    | cons y pre => simp [scan] at h
  | f + 1, p, pre, suf, r, h => by
    simp only [scan] at h
    split at h
    · rename_i hp
      cases pre with
      | nil =>
        simp only [List.nil_append, List.cons.injEq] at h
        rw [← h.1]
        exact ⟨by simp [bytes3], width_pos s p hp, width_fits s p hp⟩
      | cons y pre =>
        simp only [List.cons_append, List.cons.injEq] at h
        have := scan_next s f _ pre suf r h.2
        rw [← h.1]
        refine ⟨?_, this.2⟩
        rw [this.1]
        simp [bytes3]
        omega
    · cases pre with
      | nil => simp at h
      | cons y pre => simp at h

/-- A rune's own bytes. -/
def own3 (s : ByteArray) (r : R3) : ByteArray := s.extract r.1 (r.1 + r.2.1)
/-- The runes' cells, the last one first. -/
def turnC (s : ByteArray) : List R3 → List Value
  | [] => []
  | r :: l => turnC s l ++ Lib.strCells (own3 s r)
theorem turnC_snoc (s : ByteArray) (r : R3) : ∀ l, turnC s (l ++ [r]) = Lib.strCells (own3 s r) ++ turnC s l
  | [] => by simp [turnC]
  | x :: l => by simp [turnC, turnC_snoc s r l]

def zeros (n : Nat) : List Value := List.replicate n (.int .u8 0)
theorem turn_row (n p sz : Nat) (cs T : List Value) (h : p + sz ≤ n) (hc : cs.length = sz) :
    ((zeros (n - p) ++ T).toArray.toList.take (n - (p + sz)) ++ cs ++ (zeros (n - p) ++ T).toArray.toList.drop (n - (p + sz) + cs.length)) = zeros (n - (p + sz)) ++ (cs ++ T) := by
  have e1 : (zeros (n - p) ++ T).take (n - (p + sz)) = zeros (n - (p + sz)) := by
    unfold zeros
    rw [List.take_append_of_le_length (by simp; omega), List.take_replicate]
    congr 1
    omega
  have e2 : (zeros (n - p) ++ T).drop (n - (p + sz) + cs.length) = T := by
    unfold zeros
    rw [hc, show n - (p + sz) + sz = (List.replicate (n - p) (Value.int .u8 0)).length by simp; omega, List.drop_left]
  show (zeros (n - p) ++ T).take _ ++ cs ++ (zeros (n - p) ++ T).drop _ = _
  rw [e1, e2, List.append_assoc]

/-- What Turned's function value holds: the place, the variable of the row, the text, the row. -/
structure TurnInv (s : ByteArray) (ca co cs ob : Nat) (told : List R3) (w : World) : Prop where
  at_ : w.heap[ca]? = some (.cells #[.int .i64 ((s.size - bytes3 told : Nat) : Int)] 3 (0, 0))
  out : w.heap[co]? = some (.cells #[.slice (some ⟨ob, 0, none⟩) s.size s.size] 60 (0, 0))
  str : w.heap[cs]? = some (.cells #[.string s] 9 (0, 0))
  row : w.heap[ob]? = some (.cells (zeros (s.size - bytes3 told) ++ turnC s told).toArray 5 (0, 0))

theorem info_u8 : (Tryd.prog.info? 5).map (·.size) = some 1 := by kernel_rfl

theorem slice_s (s : ByteArray) (r : R3) (h : r.1 + r.2.1 ≤ s.size) (w : World) : (Instr.slice 9 (.string s) (some (.int .i64 (r.1 : Int))) (some (.int .i64 ((r.1 : Int) + (r.2.1 : Int)))) none).run Tryd.prog w = .ok (.string (own3 s r)) w := by
  rw [run_slice_string_if (P := Tryd.prog) w _ _ _ _ _ _ Tryd.underlying9, if_pos (by omega), if_pos (by omega), show ((r.1 : Int) + (r.2.1 : Int)).toNat = r.1 + r.2.1 by omega]
  rfl
theorem slice_o (ob n k : Nat) (h : k < n) (w : World) : (Instr.slice 60 (.slice (some ⟨ob, 0, none⟩) n n) (some (.int .i64 (k : Int))) none none).run Tryd.prog w = .ok (.slice (some ⟨ob, k, none⟩) (n - k) (n - k)) w := by
  have hi := info_u8
  have e : ¬ n = k := by omega
  cases hq : Tryd.prog.info? 5 with
  | none => simp [hq] at hi
  | some i =>
    have hsz : i.size = 1 := by simpa [hq] using hi
    simp [Instr.slice, Instr.sliceBounds, run_underlying Tryd.underlying60, go_sem, sizeOf, typeInfo, hq, hsz, e]
    try omega
theorem own3_size (s : ByteArray) (r : R3) (h : r.1 + r.2.1 ≤ s.size) : (own3 s r).size = r.2.1 := by
  unfold own3
  simp
  omega

set_option maxHeartbeats 1000000 in
set_option maxRecDepth 100000 in
theorem turned_fn (s : ByteArray) (hs : s.size ≤ 4611686018427387904) (r : R3) (told rest : List R3) (ca co cs ob B : Nat) (w : World) (hall : told ++ r :: rest = rs s) (hne : ca ≠ co ∧ ca ≠ cs ∧ ca ≠ ob ∧ co ≠ ob ∧ cs ≠ ob) (hB : B ≤ w.heap.size) (hlt : ca < B ∧ co < B ∧ cs < B ∧ ob < B) (hin : TurnInv s ca co cs ob told w) :
    Calls Tryd.prog 57 #[.agg #[.int .i64 r.1, .int .i64 r.2.1, .int .i64 r.2.2], .pointer (some ⟨ca, 0, none⟩), .pointer (some ⟨co, 0, none⟩), .pointer (some ⟨cs, 0, none⟩)] w fun e w' => e = .returned (.bool true) ∧ TurnInv s ca co cs ob (told ++ [r]) w' ∧ Frm (fun k => k = ca ∨ k = ob) B w w' := by
  obtain ⟨n1, n2, n3⟩ := scan_next s _ _ told rest r hall.symm
  rw [Nat.zero_add] at n1
  obtain ⟨h1, h2, h3, h4⟩ := hin
  obtain ⟨w1, hw1, g1, g2, g3⟩ : ∃ w1, w.alloc (.cells #[.int .i64 r.1, .int .i64 r.2.1, .int .i64 r.2.2] 28) = w1 ∧ w1.heap[w.heap.size]? = some (.cells #[.int .i64 r.1, .int .i64 r.2.1, .int .i64 r.2.2] 28 (0, 0)) ∧ Below w.heap.size w w1 ∧ w1.heap.size = w.heap.size + 1 :=
    ⟨_, rfl, heap_alloc_new _ _, (Below.refl _ _).alloc (Nat.le_refl _) _, by simp⟩
  have k1 := (g2.block ca (by omega)).trans h1
  have c1 : (w.alloc (.cells #[.int .i64 r.1, .int .i64 r.2.1, .int .i64 r.2.2] 28)).cell? ⟨ca, 0, none⟩ = some (.int .i64 ((s.size - bytes3 told : Nat) : Int)) := by rw [hw1]; exact cell_of_one k1
  have f1 : (w.alloc (.cells #[.int .i64 r.1, .int .i64 r.2.1, .int .i64 r.2.2] 28)).frozen? ⟨ca, 0, none⟩ = false := by rw [hw1]; exact free_of_one k1
  have hat : ((s.size - bytes3 told : Nat) : Int) - (r.2.1 : Int) = ((s.size - (bytes3 told + r.2.1) : Nat) : Int) := by omega
  obtain ⟨w2, hw2, d1, d2, d3⟩ : ∃ w2, w1.setCell ⟨ca, 0, none⟩ (.int .i64 ((s.size - (bytes3 told + r.2.1) : Nat) : Int)) = w2 ∧ w2.heap[ca]? = some (.cells #[.int .i64 ((s.size - (bytes3 told + r.2.1) : Nat) : Int)] 3 (0, 0)) ∧ (∀ k, k ≠ ca → w2.heap[k]? = w1.heap[k]?) ∧ w2.heap.size = w1.heap.size ∧ w2.os = w1.os ∧ w2.tape = w1.tape ∧ w2.output = w1.output :=
    ⟨_, rfl, one_setCell k1, fun k hk => Below.heap_setCell _ _ _ _ hk, by simp [World.setCell], rfl, rfl, rfl⟩
  have e1 := cell_of_one d1
  have e2 := cell_of_one ((d2 co (by omega)).trans ((g2.block co (by omega)).trans h2))
  have e3 := cell_of_one ((d2 cs (by omega)).trans ((g2.block cs (by omega)).trans h3))
  have e4 := (row3 ((d2 w.heap.size (by omega)).trans g1)).1
  have e5 := (row3 ((d2 w.heap.size (by omega)).trans g1)).2.1
  have hrow := (d2 ob (by omega)).trans ((g2.block ob (by omega)).trans h4)
  have hr1 : r.1 = bytes3 told := n1
  have P := Lib.hid (And.intro n1 (And.intro hw1 (And.intro hw2 (And.intro g2 (And.intro g3 (And.intro d1 (And.intro d2 (And.intro d3 (And.intro hrow (And.intro h2 (And.intro h3 (And.intro hne (And.intro hlt (And.intro hat hB))))))))))))))
  have b1 : 0 ≤ ((s.size - bytes3 told : Nat) : Int) := by omega
  have b2 : (r.2.1 : Int) ≤ ((s.size - bytes3 told : Nat) : Int) := by omega
  have b3 : ((s.size - bytes3 told : Nat) : Int) ≤ (s.size : Int) := by omega
  have b4 : 0 ≤ ((s.size - (bytes3 told + r.2.1) : Nat) : Int) := by omega
  have b5 : ((s.size - (bytes3 told + r.2.1) : Nat) : Int) < (s.size : Int) := by omega
  have b6 : (s.size - (bytes3 told + r.2.1)) < s.size := by omega
  have s1 := slice_s s r n3
  have s2 := slice_o ob s.size (s.size - (bytes3 told + r.2.1)) b6
  have z1 := own3_size s r n3
  have w3 : ((r.1 : Int) + (r.2.1 : Int)) ≤ (s.size : Int) := by omega
  have w4 : IntKind.i64.wrap ((r.1 : Int) + (r.2.1 : Int)) = (r.1 : Int) + (r.2.1 : Int) := IntWalk.i64_in _ (by omega)
  have hlen : (Lib.strCells (own3 s r)).length = r.2.1 := by simp [Lib.strCells, z1]
  have F := Lib.hid (And.intro e1 (And.intro e2 (And.intro e3 (And.intro e4 (And.intro e5 (And.intro s1 (And.intro s2 (And.intro z1 (And.intro hlen w4)))))))))
  clear n1 hr1 hw1 hw2 g1 g2 g3 d1 d2 d3 hrow h1 h2 h3 h4 hne hlt hat hall hB k1 e1 e2 e3 e4 e5 s1 s2 z1 hlen w4
  go_enter Tryd.func57, Tryd.ntmps57
  go_wp2
  obtain ⟨n1, hw1, hw2, g2, g3, d1, d2, d3, hrow, h2, h3, hne, hlt, hat, hB⟩ := P.out
  rw [hat, hw1, hw2]
  obtain ⟨e1, e2, e3, e4, e5, s1, s2, z1, hlen, w4_1⟩ := F.out
  have HROW := Lib.hid hrow
  clear n1 hw1 hw2 g2 g3 d1 d2 d3 hrow h2 h3 hne hlt hat hB c1 f1 z1 hlen
  have HR2 : w2.drew.heap[ob]? = some (.cells (zeros (s.size - bytes3 told) ++ turnC s told).toArray 5 (0, 0)) := HROW.out
  have Z1 : (own3 s r).size ≤ s.size - (s.size - (bytes3 told + r.2.1)) := by rw [F.out.2.2.2.2.2.2.2.1]; omega
  have Z2 : s.size - (bytes3 told + r.2.1) + (own3 s r).size ≤ (zeros (s.size - bytes3 told) ++ turnC s told).toArray.size := by rw [F.out.2.2.2.2.2.2.2.1]; simp [zeros]; omega
  have Z := Lib.hid (And.intro Z1 (And.intro Z2 HR2))
  clear HR2 Z1 Z2
  go_still_tail 12, (by kernel_rfl)
  change wpList _ _ _ _ _ w2.drew
  refine wpList_copy_str_Tryd rfl (.tmp 12) (.tmp 21) 60 9 rfl 5 Tryd.underlying60 info_u8 ob (s.size - (bytes3 told + r.2.1)) (s.size - (s.size - (bytes3 told + r.2.1))) (s.size - (s.size - (bytes3 told + r.2.1))) (own3 s r) rfl rfl (zeros (s.size - bytes3 told) ++ turnC s told).toArray 5 Z.out.2.2 Z.out.1 Z.out.2.1 ?_
  obtain ⟨n1, hw1, hw2, g2, g3, d1, d2, d3, hrow, h2, h3, hne, hlt, hat, hB⟩ := P.out
  have hlen := F.out.2.2.2.2.2.2.2.2.1
  obtain ⟨w4, hw4, q1, q2, q3⟩ : ∃ w4, w2.drew.setRow ob ((zeros (s.size - bytes3 told) ++ turnC s told).toArray.toList.take (s.size - (bytes3 told + r.2.1)) ++ Lib.strCells (own3 s r) ++ (zeros (s.size - bytes3 told) ++ turnC s told).toArray.toList.drop (s.size - (bytes3 told + r.2.1) + (Lib.strCells (own3 s r)).length)).toArray = w4 ∧
      w4.heap[ob]? = some (.cells (zeros (s.size - (bytes3 told + r.2.1)) ++ (Lib.strCells (own3 s r) ++ turnC s told)).toArray 5 (0, 0)) ∧ (∀ k, k ≠ ob → w4.heap[k]? = w2.heap[k]?) ∧ w4.heap.size = w2.heap.size ∧ w4.os = w2.os ∧ w4.tape = w2.tape ∧ w4.output = w2.output := by
    refine ⟨_, rfl, ?_, fun k hk => ?_, ?_, rfl, rfl, rfl⟩
    · rw [setRow_heap w2.drew ob _ _ 5 _ hrow, turn_row s.size (bytes3 told) r.2.1 _ _ (by omega) hlen]
    · rw [setRow_other _ _ _ _ hk]
      rfl
    · simp [World.setRow]
  rw [hw4]
  have hin2 : TurnInv s ca co cs ob (told ++ [r]) w4 := by
    refine ⟨?_, ?_, ?_, ?_⟩
    · rw [bytes3_snoc, q2 ca (by omega)]
      exact d1
    · rw [q2 co (by omega), d2 co (by omega), g2.block co (by omega)]
      exact h2
    · rw [q2 cs (by omega), d2 cs (by omega), g2.block cs (by omega)]
      exact h3
    · rw [bytes3_snoc, turnC_snoc]
      exact q1
  have hfr : Frm (fun k => k = ca ∨ k = ob) B w w4 := by
    refine ⟨q3.2.1.trans (d3.2.1.trans g2.os), q3.2.2.1.trans (d3.2.2.1.trans g2.tape), q3.2.2.2.trans (d3.2.2.2.trans g2.output), by omega, fun k hk hkc => ?_⟩
    have k1 : k ≠ ca := fun e => hkc (.inl e)
    have k2 : k ≠ ob := fun e => hkc (.inr e)
    rw [q2 k k2, d2 k k1, g2.block k (by omega)]
  have Y := Lib.hid (And.intro hin2 hfr)
  clear n1 hw1 hw2 g2 g3 d1 d2 d3 hrow h2 h3 hne hlt hat hB hlen hw4 q1 q2 q3 hin2 hfr e1 e2 e3 e4 e5 s1 s2 w4_1 Z HROW F P
  go_wp2
  go_ret
  exact ⟨rfl, Y.out.1, Y.out.2⟩

/-- The runes' bytes, the last one first. -/
def turnB (s : ByteArray) : List R3 → List UInt8
  | [] => []
  | r :: l => turnB s l ++ (own3 s r).data.toList
theorem turnC_eq (s : ByteArray) : ∀ l, turnC s l = (turnB s l).map fun b => Value.int .u8 b.toNat
  | [] => rfl
  | r :: l => by simp [turnC, turnB, turnC_eq s l, Lib.strCells]
theorem bytes3_all (s : ByteArray) : ∀ f p, s.size - p ≤ f → p ≤ s.size → p + bytes3 (scan s f p) = s.size
  | 0, p, h, h2 => by simp [scan, bytes3]; omega
  | f + 1, p, h, h2 => by
    simp only [scan]
    by_cases hp : p < s.size
    · have hw := width_pos s p hp
      have hf := width_fits s p hp
      have := bytes3_all s f (p + (Utf8.decode s p).2) (by omega) hf
      rw [if_pos hp]
      simp [bytes3] at this ⊢
      omega
    · rw [if_neg hp]
      simp [bytes3]
      omega
theorem bytes3_rs (s : ByteArray) : bytes3 (rs s) = s.size := by
  have := bytes3_all s (s.size - 0) 0 (by omega) (by omega)
  rw [Nat.zero_add] at this
  exact this
theorem turnB_size (s : ByteArray) : ∀ l : List R3, (∀ r ∈ l, r.1 + r.2.1 ≤ s.size) → (turnB s l).length = bytes3 l
  | [], _ => rfl
  | r :: l, h => by
    have ih := turnB_size s l (fun x hx => h x (List.mem_cons_of_mem _ hx))
    have hz := own3_size s r (h r List.mem_cons_self)
    have e : (own3 s r).data.toList.length = r.2.1 := by rw [Array.length_toList]; exact hz
    simp only [turnB, List.length_append, ih, e, bytes3, List.map_cons, List.sum_cons]
    omega
theorem rs_fits (s : ByteArray) : ∀ r ∈ rs s, r.1 + r.2.1 ≤ s.size := by
  intro r hr
  obtain ⟨pre, suf, h⟩ := List.append_of_mem hr
  exact (scan_next s _ _ pre suf r h).2.2

def runes_Turned.f (a0 : ByteArray) : Option ByteArray := if a0.size ≤ 140737488355327 then some ⟨(turnB a0 (rs a0)).toArray⟩ else none

theorem made_zeros (n : Nat) : (madeCells (Value.int .u8 0).cells (n * 1)).toList = zeros n := by
  unfold zeros
  apply List.ext_getElem
  · simp [madeCells, Value.cells]
  · intro i h1 h2
    simp [madeCells, Value.cells]
    rw [Nat.mod_one]
    rfl
/-- A row that a make has just laid. -/
theorem row_of_own {w : World} {base : Nat} {e : TypeId} {g n : Nat} {xs : List Value} (h : w.ownsRow base e 1 (.slice (some ⟨g, 0, none⟩) n n) n xs) : w.heap[g]? = some (.cells xs.toArray e (0, 0)) := by
  rcases h.2 with ⟨h1, _⟩ | ⟨g', cap, cur, h1, _, h2, _, _, h3, h4⟩
  · cases h1
  · simp only [Value.slice.injEq, Option.some.injEq, Addr.mk.injEq, and_true, true_and] at h1
    obtain ⟨rfl, rfl⟩ := h1
    rw [h2]
    congr 2
    rw [← h4]
    apply Array.ext'
    simp
    rw [List.take_of_length_le (by simp; omega)]
theorem infoU8 : (Tryd.prog.info? 5).map (fun i => (i.zero, i.size, i.bytes)) = some (some (.int .u8 0), 1, 1) := by kernel_rfl

set_option maxHeartbeats 1000000 in
set_option maxRecDepth 100000 in
theorem runes_Turned.calls (a0 : ByteArray) (r : ByteArray) (w : World) (h : runes_Turned.f a0 = some r) :
    Calls Tryd.prog 29 #[.string a0] w fun e w' => e = .returned (.string r) ∧ Below w.heap.size w w' := by
  unfold runes_Turned.f at h
  split at h
  · rename_i hs
    obtain rfl := Option.some.inj h
    clear h
    have hgo : go (fun _ _ => true) [] (rs a0) = rs a0 := by rw [go_all]; rfl
    have hb := bytes3_rs a0
    have ht := turnB_size a0 (rs a0) (rs_fits a0)
    have HG := Lib.hid (And.intro hgo (And.intro hb ht))
    have HS := Lib.hid hs
    clear hgo hb ht
    obtain ⟨i0, hi, hz0, hz1, hz2⟩ := info_parts infoU8
    go_enter Tryd.func29, Tryd.ntmps29
    go_wp2_with (at_make; refine wpList_make_full _ rfl (.tmp 6) (.tmp 6) 60 rfl (w.heap.size + 1) 5 i0 (.int .u8 0) 1 Tryd.underlying60 hi hz0 hz1 .i64 .i64 (a0.size : Int) (a0.size : Int) a0.size rfl rfl rfl rfl (by rw [hz2]; omega) (by unfold maxLen; omega) (by simp) ?_; intro w1 hown hgr; have hS1 : w1.heap[w.heap.size]? = some (.cells #[.string a0] 9 (0, 0)) := (hgr.block _ (by simp) (by simp)).trans (heap_alloc_new _ _); have hO1 := row_of_own hown; have hsz1 : w.heap.size + 2 ≤ w1.heap.size := (by have := (Array.getElem?_eq_some_iff.1 hO1).1; simp at this; omega); have cS : (w1.alloc (.cells #[.slice (some ⟨w.heap.size + 1, 0, none⟩) a0.size a0.size] 60)).cell? ⟨w.heap.size, 0, none⟩ = some (.string a0) := cell_of_one ((Below.heap_alloc _ _ _ (by omega)).trans hS1); have cS2 : ((w1.alloc (.cells #[.slice (some ⟨w.heap.size + 1, 0, none⟩) a0.size a0.size] 60)).alloc (.cells #[.int .i64 (a0.size : Int)] 3)).cell? ⟨w.heap.size, 0, none⟩ = some (.string a0) := cell_of_one ((Below.heap_alloc _ _ _ (by simp; omega)).trans ((Below.heap_alloc _ _ _ (by omega)).trans hS1)); have K := Lib.hid (And.intro hown (And.intro hgr (And.intro hS1 (And.intro hO1 hsz1)))); clear hown hgr hS1 hO1 hsz1)
    obtain ⟨hown, hgr, hS1, hO1, hsz1⟩ := K.out
    rw [made_zeros] at hO1
    clear cS cS2
    have hO1' : w1.heap[w.heap.size + 1]? = some (.cells (zeros a0.size).toArray 5 (0, 0)) := by simpa using hO1
    obtain ⟨w2, hw2, m1, m2, m3, m4, m5⟩ : ∃ w2, (w1.alloc (.cells #[.slice (some ⟨w.heap.size + 1, 0, none⟩) a0.size a0.size] 60)).alloc (.cells #[.int .i64 (a0.size : Int)] 3) = w2 ∧
        w2.heap[w1.heap.size]? = some (.cells #[.slice (some ⟨w.heap.size + 1, 0, none⟩) a0.size a0.size] 60 (0, 0)) ∧ w2.heap[w1.heap.size + 1]? = some (.cells #[.int .i64 (a0.size : Int)] 3 (0, 0)) ∧ (∀ k, k < w1.heap.size → w2.heap[k]? = w1.heap[k]?) ∧ w2.heap.size = w1.heap.size + 2 ∧ Below w1.heap.size w1 w2 :=
      ⟨_, rfl, (Below.heap_alloc _ _ _ (by simp)).trans (heap_alloc_new _ _), by simpa using heap_alloc_new (w1.alloc (.cells #[.slice (some ⟨w.heap.size + 1, 0, none⟩) a0.size a0.size] 60)) (.cells #[.int .i64 (a0.size : Int)] 3), fun k hk => (Below.heap_alloc _ _ _ (by simp; omega)).trans (Below.heap_alloc _ _ _ hk), by simp, ((Below.refl _ _).alloc (Nat.le_refl _) _).alloc (by simp) _⟩
    rw [hw2]
    have hbel2 : Below w.heap.size w w2 := by
      refine (((Below.refl _ w).alloc (Nat.le_refl _) _).trans ⟨hgr.os, hgr.tape, hgr.output, hgr.size, fun k hk => hgr.block k (by simp; omega) (by simp)⟩).trans (m5.mono (by omega))
    refine (each_any a0 (by have := HS.out; omega) 57 #[.pointer (some ⟨w1.heap.size + 1, 0, none⟩), .pointer (some ⟨w1.heap.size, 0, none⟩), .pointer (some ⟨w.heap.size, 0, none⟩)] (hcf _ Tryd.func57 (by kernel_rfl) (by kernel_rfl)) w2 (TurnInv a0 (w1.heap.size + 1) w1.heap.size w.heap.size (w.heap.size + 1)) (fun _ _ => true) (fun k => k = w1.heap.size + 1 ∨ k = w.heap.size + 1) ?_ ?_ ?_ ?_).mono ?_
    · rintro k (hk | hk)
      · omega
      · omega
    · rintro told x x' ⟨t1, t2, t3, t4⟩ hsz hst
      have u1 := (Array.getElem?_eq_some_iff.1 t1).1
      have u2 := (Array.getElem?_eq_some_iff.1 t2).1
      have u3 := (Array.getElem?_eq_some_iff.1 t3).1
      have u4 := (Array.getElem?_eq_some_iff.1 t4).1
      exact ⟨(hst _ u1 (by omega) (by omega)).trans t1, (hst _ u2 (by omega) (by omega)).trans t2, (hst _ u3 (by omega) (by omega)).trans t3, (hst _ u4 (by omega) (by omega)).trans t4⟩
    · refine ⟨m2, m1, (m3 _ (by omega)).trans hS1, ?_⟩
      rw [m3 _ (by omega), hO1']
      simp [bytes3, turnC]
    · rintro told x w3 ⟨rest, hrest⟩ hin hsz
      refine (turned_fn a0 (by have := HS.out; omega) x told rest _ _ _ _ (w2.heap.size + 2) w3 hrest ⟨by omega, by omega, by omega, by omega, by omega⟩ hsz ⟨by omega, by omega, by omega, by omega⟩ hin).mono ?_
      rintro e w4 ⟨rfl, hin2, hfr⟩
      exact ⟨rfl, hin2, hfr⟩
    · rintro e w3 ⟨rfl, hin, hfr⟩
      obtain ⟨hgo, hb, ht⟩ := HG.out
      rw [hgo] at hin
      obtain ⟨t1, t2, t3, t4⟩ := hin
      rw [hb, Nat.sub_self] at t4
      have c2 := cell_of_one t2
      have hlen : (turnB a0 (rs a0)).length = a0.size := by omega
      have hcv := run_convert_bytes_back (P := Tryd.prog) w3 60 9 5 ⟨w.heap.size + 1, 0, none⟩ a0.size (turnB a0 (rs a0)) Tryd.underlying60 Tryd.underlying5 Tryd.underlying9 (fun j hj => by
        rw [add_plain, blk_cell t4 j]
        simp [zeros, turnC_eq, hj])
      rw [hlen] at hcv
      have hbel : Below w.heap.size w w3 := hbel2.trans (hfr.below (by omega) (fun k hk e => by rcases e with e | e <;> omega))
      have Q := Lib.hid hbel
      clear t1 t2 t3 t4 hfr hbel hgo hb ht hlen hbel2 m1 m2 m3 m4 m5 hw2 hO1 hO1' hS1 hown hgr hsz1
      go_wp2
      go_ret
      exact ⟨rfl, Q.out⟩
  · cases h
end Go.Proofs.YtlmmhlabacghnaaDoor.PR
