/- HashPlaces: for every key, in form or not, and every size hash.Main answers what the document says: a place below the size, or its error. -/
import Derived.Test.YtlmmhlabacghnaaRows
import Derived.Test.YtlmmhlabacghnaaHM2
import Derived.WalkKit
import Derived.ProofKit
import Derived.OpenShut
import Derived.ShutString
import Derived.ChangeOld
import Derived.Below
import Derived.SizedLaws
import Derived.Lib.SmallJoins
import Derived.Carry
namespace Go.Proofs.Ytlmmhlabacghnaa.hashPlaces
open Go.ChangeShapes Go.WideShapes Go.ChangeAt Go.RowKit Go.Joins
open Go.ChangeMaps (open_string shut_string)
set_option linter.unusedVariables false
theorem own : ownKnob Try.prog.godebug = none := by kernel_rfl
theorem laidOut : laidOutB Try.prog = true := by kernel_rfl
theorem cells30 : Try.prog.cellsOf 30 = 3 := by kernel_rfl

theorem walk (a0 a1 : Int) (a2 : ByteArray) (z : Int) (w : World) (hz : (Lit.int .i64 z).wf = true) :
    Calls Try.prog 5 #[.agg #[.int .i64 a0, .int .i64 a1, .string a2], .int .i64 z] w fun e w' => e = .returned (.bool true) ∧ Below w.heap.size w w' := by
  have hmin : IntKind.i64.min = -9223372036854775808 := rfl
  have hmax : IntKind.i64.max = 9223372036854775807 := rfl
  have hz2 := hz
  simp only [Lit.wf, Bool.and_eq_true, decide_eq_true_eq] at hz2
  exact PH.trestlelaw04_HashPlaces.calls 10002 a0 a1 a2 z true w (HM.hashPlaces a0 a1 a2 z (by omega))

set_option maxRecDepth 100000 in
theorem lifted (os : Os) (started : os.Started) (H : Type) (enc : TypeId × Value → H) :
    ReturnsInHanded {} Try.checked os 5 .any (Rows.hashPlacesSpec.pre6 enc Try.prog Try.f5 Rows.hashPlacesRow.domain false) (Rows.hashPlacesSpec.post enc Try.prog Try.f5 false true false false) := by
  refine returnsInHanded_of_change_sized (C := Try.checked) own started (by kernel_rfl) Try.func5
    (ChangeSpec.witness6 (enc := enc) (C := Try.checked) false ⟨#[], #[.agg #[.int .i64 0, .int .i64 0, .string ByteArray.empty], .int .i64 0], []⟩ 8 (by kernel_rfl) (by kernel_rfl) (by kernel_rfl) (by kernel_rfl)) ?_
  intro W base args ds gs before hval0 hW hcnd hsz0 _
  have hval : ∀ (j : Nat) t v, Try.f5.params[j]? = some t → args[j]? = some v → Value.okWide Try.prog W .any base t v := hval0
  have hW' := hW
  obtain ⟨p, q, hA0, hV, rfl, hfz, hnd⟩ := hW
  have hA : DataW.TrodAll enc Try.prog W 0 (fun _ => true) true Try.f5.params.toList args.toList ds p := hA0
  rw [Try.params5] at hA hval
  obtain ⟨v0, vs0, d0, ds0, p0, q0, hargs, rfl, rfl, h0, r0⟩ := trodAll_cons hA
  obtain ⟨v1, vs1, d1, ds1, p1, q1, rfl, rfl, rfl, h1, r1⟩ := trodAll_cons r0
  obtain ⟨rfl, rfl, rfl⟩ := trodAll_nil r1
  obtain rfl : args = #[v0, v1] := by cases args; simp_all
  obtain ⟨rfl, rfl⟩ := trodVars_none hV
  have k0 := h0
  have lt0 : ∀ x ∈ p0, x.block < W.heap.size := by obtain ⟨m, hm⟩ := k0; exact DataW.trod_lt m _ _ _ hm
  obtain ⟨c0, c1, c2, y0, y1, y2, m, rfl, hd0, hp0, e0, e1, e2⟩ := open_agg3 Try.underlying30 (by kernel_rfl) cells30 (hval 0 30 v0 rfl rfl) h0
  obtain ⟨n0, g0, _, _⟩ := DataW.trod_int Try.underlying3 e0
  obtain ⟨n1, g1, _, _⟩ := DataW.trod_int Try.underlying3 e1
  obtain ⟨n2, g2, _, _⟩ := DataW.trod_string Try.underlying9 e2
  simp only [List.cons.injEq, and_true] at g0 g1 g2
  subst g0 g1 g2
  obtain ⟨a1, rfl, rfl, rfl, w1⟩ := open_int Try.underlying3 (hval 1 3 v1 rfl rfl) h1
  clear hA0 hval0 hsz0
  refine (walk n0 n1 n2 a1 W w1).mono fun e W' ⟨he, bel⟩ => ?_
  subst he
  exact ⟨_, rfl, _, _, _, [], _, [], hW', trodAll_mk1 (shut_bool Try.underlying4 _), (trodAll_cons_mk (Below.trod laidOut (by kernel_rfl) (of_decide_eq_true (by kernel_rfl)) k0 bel lt0) (trodAll_cons_mk (shut_int Try.underlying3 w1) trodAll_mk0)), rfl, bel.frame _, fun h => by cases h⟩
theorem over : Rows.hashPlacesRow.holds Try.pinned (OpenSpec.ofChange Rows.hashPlacesSpec) :=
  OpenClaim.holds_of_wide 5 Try.f5 rfl rfl rfl rfl rfl rfl rfl ⟨rfl, rfl, rfl, rfl, rfl⟩ rfl rfl rfl rfl rfl (by kernel_rfl) Try.func5 (by kernel_rfl)
    (of_decide_eq_true (by kernel_rfl)) (by unfold Func.isWrapper; first | (rw [if_pos (by decide +kernel)]; kernel_rfl) | (rw [if_neg (by decide +kernel)]; exact ⟨rfl, rfl⟩))
    (fun os started H enc _ => lifted os started H enc)
theorem proved : Rows.HashPlacesSaid := over
#print axioms proved
end Go.Proofs.Ytlmmhlabacghnaa.hashPlaces
namespace Go.Proofs.Ytlmmhlabacghnaa
/-- The row, under a short name, for the claim. -/
theorem hashPlaces_holds : Rows.HashPlacesSaid := hashPlaces.proved
end Go.Proofs.Ytlmmhlabacghnaa
