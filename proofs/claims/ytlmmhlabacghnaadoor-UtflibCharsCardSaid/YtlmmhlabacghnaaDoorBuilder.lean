/- (*strings.Builder).WriteString of Go 1.27: its walk, every other block kept. -/
import Derived.Test.YtlmmhlabacghnaaDoorEach
import Derived.Lib.AppendStr
import Derived.WalkLawsBesides
import Derived.WalkSpells
import Derived.Lib.Builder
namespace Go.Proofs.YtlmmhlabacghnaaDoor.PR
open Go.RowKit Go.Proofs.YtlmmhlabacghnaaDoorW.PrintWords Go.Proofs.YtlmmhlabacghnaaDoorW.PrintLast Go.Proofs.YtlmmhlabacghnaaDoorW.PrintMore Go.Proofs.YtlmmhlabacghnaaDoor.RuneMath
set_option linter.unusedVariables false
set_option linter.unusedSimpArgs false

/-- A Builder at block b: its own address or none, and a row of bytes of its own from block B on. -/
def BuildAt (B b : Nat) (bs : List Value) (w : World) : Prop :=
  ∃ p v, (p = .pointer none ∨ p = .pointer (some ⟨b, 0, none⟩)) ∧ w.heap[b]? = some (.cells #[p, v] 68 (0, 0)) ∧ w.ownsRow B 5 1 v bs.length bs

theorem row2 {w : World} {b : Nat} {x y : Value} {t : TypeId} (h : w.heap[b]? = some (.cells #[x, y] t (0, 0))) :
    w.cell? ⟨b, 0, none⟩ = some x ∧ w.cell? ⟨b, 1, none⟩ = some y ∧ w.frozen? ⟨b, 0, none⟩ = false ∧ w.frozen? ⟨b, 1, none⟩ = false :=
  ⟨(blk_cell h 0).trans rfl, (blk_cell h 1).trans rfl, blk_frozen h 0, blk_frozen h 1⟩

theorem sizeBuilder : (Tryd.prog.info? 68).map (·.size) = some 2 := by kernel_rfl
theorem liesBuilder : liesAt Tryd.prog Tryd.prog.depth 68 (2 / Tryd.prog.cellsOf 68) 0 68 1 = true := by kernel_rfl

set_option maxHeartbeats 1000000 in
set_option maxRecDepth 100000 in
theorem copy_check (b : Nat) (p v : Value) (hp : p = .pointer none ∨ p = .pointer (some ⟨b, 0, none⟩)) (w : World) (hb : w.heap[b]? = some (.cells #[p, v] 68 (0, 0))) :
    Calls Tryd.prog 68 #[.pointer (some ⟨b, 0, none⟩)] w fun e w' => e = .returned (.tuple #[]) ∧ w'.heap[b]? = some (.cells #[.pointer (some ⟨b, 0, none⟩), v] 68 (0, 0)) ∧ (∀ k, k ≠ b → w'.heap[k]? = w.heap[k]?) ∧ w'.heap.size = w.heap.size ∧ w'.os = w.os ∧ w'.tape = w.tape ∧ w'.output = w.output := by
  obtain ⟨c0, c1, f0, f1⟩ := row2 hb
  obtain ⟨j, hj, hjs⟩ := Option.map_eq_some_iff.1 sizeBuilder
  have hsh : w.shape? b = some (68, 2) := by simp [World.shape?, hb]
  have HB := Lib.hid (And.intro hb (And.intro hj (And.intro hjs hsh)))
  clear hb hj hjs hsh
  rcases hp with rfl | rfl
  · go_enter Tryd.func68, Tryd.ntmps68
    go_wp2
    obtain ⟨hb, hj, hjs, hsh⟩ := HB.out
    rw [Lib.run_to_unsafe w ⟨b, 0, none⟩ Tryd.underlying66 Tryd.underlying89 hj (by rw [hjs]; decide) hsh (Nat.zero_lt_succ 1)]
    clear hb hj hjs hsh
    simp only [Result.andThen]
    rw [Oper.upon_value]
    go_wp2
    rw [run_callFunc_extern Tryd.func72 (by kernel_rfl) (by kernel_rfl) (by kernel_rfl) (e := Extern.AbiNoEscape.same) (by kernel_rfl)]
    rw [Lib.run_noEscape]
    simp only [Result.andThen]
    rw [Oper.upon_value]
    go_wp2
    obtain ⟨hb, hj, hjs, hsh⟩ := HB.out
    rw [Lib.run_from_unsafe w ⟨b, 0, none⟩ Tryd.underlying89 Tryd.underlying66 hj hsh liesBuilder]
    clear hb hj hjs hsh
    simp only [Result.andThen]
    rw [Oper.upon_value]
    go_wp2
    go_end0
    obtain ⟨hb, hj, hjs, hsh⟩ := HB.out
    exact ⟨rfl, blk_put (cs := #[.pointer none, v]) hb 0 _ rfl, fun k hk => Below.heap_setCell _ _ _ _ hk, by simp [World.setCell], rfl, rfl, rfl⟩
  · have hj := HB.out.2.1
    have hq := Lib.run_neq_ptr_same (P := Tryd.prog) w (tp := 66) (te := 68) ⟨b, 0, none⟩ Tryd.underlying66 hj
    clear hj
    go_enter Tryd.func68, Tryd.ntmps68
    go_wp2
    go_end0
    obtain ⟨hb, hj, hjs, hsh⟩ := HB.out
    exact ⟨rfl, hb, fun k hk => rfl, rfl, rfl, rfl, rfl⟩

theorem infoByte : (Tryd.prog.info? 5).map (fun i => (i.zero, i.size, i.bytes)) = some (some (.int .u8 0), 1, 1) := by kernel_rfl

set_option maxHeartbeats 1000000 in
set_option maxRecDepth 100000 in
theorem write_string (B b : Nat) (bs : List Value) (s : ByteArray) (w : World) (h : BuildAt B b bs w) (hlen : bs.length + s.size ≤ 140737488355328) (hB : B ≤ w.heap.size) :
    Calls Tryd.prog 54 #[.pointer (some ⟨b, 0, none⟩), .string s] w fun e w' => e = .returned (.tuple #[.int .i64 s.size, .nilIface]) ∧ BuildAt B b (bs ++ Lib.strCells s) w' ∧ Frm (fun k => k = b) B w w' := by
  obtain ⟨p, v, hp, hb, hown⟩ := h
  obtain ⟨i0, hi, hz0, hz1, hz2⟩ := info_parts infoByte
  obtain ⟨A0, n0, hv⟩ := own_slice hown
  subst hv
  have HH := Lib.hid (And.intro hp (And.intro hb (And.intro hown (And.intro hlen hB))))
  clear hp hb hown hlen hB
  go_enter Tryd.func54, Tryd.ntmps54
  go_wp2_with (first | (go_at_call 68; refine (copy_check b p _ HH.out.1 w HH.out.2.1).mono ?_; rintro e w1 ⟨rfl, g1, g2, g3, g4, g5, g6⟩; obtain ⟨c0, c1, f0, f1⟩ := row2 g1; have G := Lib.hid (And.intro g1 (And.intro g2 (And.intro g3 (And.intro g4 (And.intro g5 g6))))); clear g1 g2 g3 g4 g5 g6) | ((with_reducible refine gate_builtin (b := .append) (xs := #[.tmp 12, .tmp 13]) rfl ?_); refine Lib.wpList_append_own_string w1 rfl (.tmp 12) (.tmp 13) 60 9 rfl B 5 i0 Tryd.underlying60 Tryd.underlying9 hi hz0 hz1 hz2 (.slice A0 bs.length n0) bs.length bs rfl ?ha s rfl ?hb ?hc ?hd ?_))
  case ha =>
    obtain ⟨hp, hb, hown, hlen, hB⟩ := HH.out
    obtain ⟨g1, g2, g3, g4, g5, g6⟩ := G.out
    refine own_move hown fun k hk => g2 k ?_
    rintro rfl
    obtain ⟨cells, hc⟩ := own_typed hown k hk
    rw [hb] at hc
    injection hc with hc
    injection hc with _ hc
    exact absurd hc (by decide)
  case hb => have := HH.out.2.2.2.1; unfold maxLen; omega
  case hc => exact HH.out.2.2.2.1
  case hd => have := G.out.2.2.1; have := HH.out.2.2.2.2; omega
  intro v2 w2 hown2 hgr _
  obtain ⟨hp, hb, hown, hlen, hB⟩ := HH.out
  obtain ⟨g1, g2, g3, g4, g5, g6⟩ := G.out
  obtain ⟨A2, n2, hv2⟩ := own_slice hown2
  subst hv2
  have hlt : b < w.heap.size := (Array.getElem?_eq_some_iff.1 hb).1
  have hne : ¬ some b = (Value.slice A0 bs.length n0).ownBlock := by
    intro e
    obtain ⟨cells, hc⟩ := own_typed hown b e.symm
    rw [hb] at hc
    injection hc with hc
    injection hc with _ hc
    exact absurd hc (by decide)
  have hb2 : w2.heap[b]? = some (.cells #[.pointer (some ⟨b, 0, none⟩), .slice A0 bs.length n0] 68 (0, 0)) := (hgr.block b (by omega) hne).trans g1
  obtain ⟨d0, d1, e0, e1⟩ := row2 hb2
  obtain ⟨w3, hw3, q1, q2, q3⟩ : ∃ w3, w2.setCell ⟨b, 1, none⟩ (.slice A2 (bs.length + s.size) n2) = w3 ∧ w3.heap[b]? = some (.cells #[.pointer (some ⟨b, 0, none⟩), .slice A2 (bs.length + s.size) n2] 68 (0, 0)) ∧ (∀ k, k ≠ b → w3.heap[k]? = w2.heap[k]?) ∧ w3.heap.size = w2.heap.size ∧ w3.os = w2.os ∧ w3.tape = w2.tape ∧ w3.output = w2.output :=
    ⟨_, rfl, blk_put (cs := #[.pointer (some ⟨b, 0, none⟩), .slice A0 bs.length n0]) hb2 1 _ rfl, fun k hk => Below.heap_setCell _ _ _ _ hk, by simp [World.setCell], rfl, rfl, rfl⟩
  have hown3 : w3.ownsRow B 5 1 (.slice A2 (bs.length + s.size) n2) (bs ++ Lib.strCells s).length (bs ++ Lib.strCells s) := by
    have e : (bs ++ Lib.strCells s).length = bs.length + s.size := by simp [Lib.strCells]
    rw [e]
    refine own_move hown2 fun k hk => q2 k ?_
    rintro rfl
    obtain ⟨cells, hc⟩ := own_typed hown2 k hk
    rw [hb2] at hc
    injection hc with hc
    injection hc with _ hc
    exact absurd hc (by decide)
  have hfr : Frm (fun k => k = b) B w w3 := by
    refine ⟨q3.2.1.trans (hgr.os.trans g4), q3.2.2.1.trans (hgr.tape.trans g5), q3.2.2.2.trans (hgr.output.trans g6), ?_, fun k hk hkc => ?_⟩
    · have := hgr.size
      omega
    · have hkb : k ≠ b := hkc
      rw [q2 k hkb, hgr.block k (by omega) ?_, g2 k hkb]
      intro e
      have := own_base hown k e.symm
      omega
  have Y := Lib.hid (And.intro hw3 (And.intro q1 (And.intro hown3 hfr)))
  clear hp hb hown hlen hB g1 g2 g3 g4 g5 g6 hown2 hgr hlt hne hb2 hw3 q1 q2 q3 hown3 hfr c0 c1 f0 f1
  go_wp2
  go_ret2
  obtain ⟨hw3, q1, hown3, hfr⟩ := Y.out
  rw [hw3]
  exact ⟨rfl, ⟨_, _, .inr rfl, q1, hown3⟩, hfr⟩

/-- What String answers: off the shelf. -/
theorem build_is {B b : Nat} {bs : List Value} {w : World} (h : BuildAt B b bs w) (B' : Nat) (hB : B' ≤ B) (hb' : B' ≤ b) : Lib.IsBuilder 68 5 B' b bs w := by
  obtain ⟨p, v, hp, hb, hown⟩ := h
  have hne : v.ownBlock ≠ some b := by
    intro e
    obtain ⟨cells, hc⟩ := own_typed hown b e
    rw [hb] at hc
    injection hc with hc
    injection hc with _ hc
    exact absurd hc (by decide)
  rcases hp with rfl | rfl
  · exact .inl ⟨hb', v, hb, own_weaken hown hB, hne⟩
  · exact .inr ⟨hb', v, hb, own_weaken hown hB, hne⟩
end Go.Proofs.YtlmmhlabacghnaaDoor.PR
