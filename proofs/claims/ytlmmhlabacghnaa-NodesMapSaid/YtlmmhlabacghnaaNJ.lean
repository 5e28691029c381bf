/- The calls that a law plays, opened out of the row's argument. -/
import Derived.Test.YtlmmhlabacghnaaNO
import Derived.WalkKit
import Derived.ProofKit
import Derived.OpenShut
import Derived.ChangeOld
import Derived.Deep.Slices
import Derived.DataReads
namespace Go.Proofs.Ytlmmhlabacghnaa.PH
open Go.ChangeShapes Go.WideShapes Go.ChangeAt Go.RowKit Go.Deep Go.Proofs.YtlmmhlabacghnaaW.PrintWords
set_option linter.unusedVariables false
set_option linter.unusedSimpArgs false

set_option maxRecDepth 100000 in
theorem trod_val {H : Type} {enc : TypeId × Value → H} {w : World} {base : Nat} {spare : Nat → Bool} {held : Bool} {fuel : Nat} {cs : List Value} {x : DataW H × List MemPlace} (h : DataW.trod enc Try.prog w base spare held fuel 30 cs = some x) :
    ∃ k : Ky, cs = [.int .i64 k.f0, .int .i64 k.f1, .string k.f2] := by
  obtain ⟨xs, k, _, _, hlen, hxl, hf⟩ := DataW.trod_struct Try.underlying30 h
  have hc : Try.prog.cellsOf 30 = 3 := by kernel_rfl
  have hc1 : Try.prog.cellsOf 3 = 1 := by kernel_rfl
  have hc2 : Try.prog.cellsOf 9 = 1 := by kernel_rfl
  rw [hc] at hlen
  have hx3 : xs.length = 3 := hxl
  clear hxl
  match xs, hx3, cs, hlen with
  | [y0, y1, y2], _, [v0, v1, v2], _ =>
    have g0 := hf 0 _ rfl
    have g1 := hf 1 _ rfl
    have g2 := hf 2 _ rfl
    simp [hc1, hc2] at g0 g1 g2
    obtain ⟨n0, e0, _⟩ := DataW.trod_int Try.underlying3 g0
    obtain ⟨n1, e1, _⟩ := DataW.trod_int Try.underlying3 g1
    obtain ⟨n2, e2, _⟩ := DataW.trod_string Try.underlying9 g2
    simp only [List.cons.injEq, and_true] at e0 e1 e2
    subst e0 e1 e2
    exact ⟨⟨n0, n1, n2⟩, rfl⟩
set_option maxRecDepth 100000 in
theorem trod_op {H : Type} {enc : TypeId × Value → H} {w : World} {base : Nat} {spare : Nat → Bool} {held : Bool} {fuel : Nat} {cs : List Value} {x : DataW H × List MemPlace} (h : DataW.trod enc Try.prog w base spare held fuel 65 cs = some x) :
    ∃ o : OpD, cs = ocells o := by
  obtain ⟨xs, k, _, _, hlen, hxl, hf⟩ := DataW.trod_struct Try.underlying65 h
  have hc : Try.prog.cellsOf 65 = 7 := by kernel_rfl
  have hc1 : Try.prog.cellsOf 3 = 1 := by kernel_rfl
  have hc2 : Try.prog.cellsOf 30 = 3 := by kernel_rfl
  rw [hc] at hlen
  have hx3 : xs.length = 3 := hxl
  clear hxl
  match xs, hx3, cs, hlen with
  | [y0, y1, y2], _, [v0, v1, v2, v3, v4, v5, v6], _ =>
    have g0 := hf 0 _ rfl
    have g1 := hf 1 _ rfl
    have g2 := hf 2 _ rfl
    simp [hc1, hc2] at g0 g1 g2
    obtain ⟨n0, e0, _⟩ := DataW.trod_int Try.underlying3 g0
    obtain ⟨k1, e1⟩ := trod_val g1
    obtain ⟨k2, e2⟩ := trod_val g2
    simp only [List.cons.injEq, and_true] at e0 e1 e2
    obtain ⟨rfl, rfl, rfl⟩ := e1
    obtain ⟨rfl, rfl, rfl⟩ := e2
    subst e0
    exact ⟨⟨n0, k1, k2⟩, rfl⟩
/-- The row's slice of calls. -/
theorem open_ops {H : Type} {enc : TypeId × Value → H} {W : World} {base : Nat} {a : Option Addr} {len cap : Nat} {d : DataW H} {ps : List MemPlace} (h : DataW.Trod enc Try.prog W base (fun _ => true) true 57 (.slice a len cap) d ps) :
    ∃ ops : List OpD, ops.length = len ∧ len ≤ cap ∧ Kd.C kO W a ops.length ops := by
  obtain ⟨fuel, hf⟩ := h
  rcases open_slice Try.underlying57 hf with ⟨hcs, _⟩ | ⟨ad, l, c, m, n, D, Pl, hcs, _, hl, hm, hmm, _, hel⟩
  · simp [Value.cells] at hcs
    obtain ⟨rfl, rfl, rfl⟩ := hcs
    exact ⟨[], rfl, Nat.le_refl _, rfl, by simp, fun h => by simp at h⟩
  · simp [Value.cells] at hcs
    obtain ⟨rfl, rfl, rfl⟩ := hcs
    have hc : Try.prog.cellsOf 65 = 7 := by kernel_rfl
    have hm2 : m = cap := by rw [hmm]; rfl
    rw [hc] at hel
    have each : ∀ i, i < len → ∃ o : OpD, ∀ j u, (ocells o)[j]? = some u → W.cell? (ad.add (i * 7 + j)) = some u := by
      intro i hi
      obtain ⟨cs', h1, h2⟩ := hel i (by omega)
      obtain ⟨o, ho⟩ := trod_op h2
      obtain ⟨_, hl7, hcell⟩ := World.cells?_some h1
      refine ⟨o, fun j u hj => ?_⟩
      subst ho
      have hj7 : j < 7 := by
        have := (List.getElem?_eq_some_iff.1 hj).1
        omega
      have h3 := hcell j hj7
      rw [Deep.add_add] at h3
      rw [h3, hj]
    have : Inhabited OpD := ⟨zO⟩
    obtain ⟨F, hF⟩ := choose_lt each
    have hlen : ((List.range len).map F).length = len := by simp
    refine ⟨(List.range len).map F, hlen, hl, rfl, by rw [hlen]; have := hm; simp [maxLen] at this; omega, fun _ => ⟨ad, rfl, fun j p hj => ?_⟩⟩
    have hj2 : j < len := by
      have := (List.getElem?_eq_some_iff.1 hj).1
      rwa [hlen] at this
    have hp : F j = p := by
      rw [List.getElem?_map, List.getElem?_range hj2] at hj
      exact Option.some.inj hj
    subst hp
    exact ⟨ocells (F j), rfl, kO_mk W (F j), fun i u hu => hF j hj2 i u hu⟩
end Go.Proofs.Ytlmmhlabacghnaa.PH
