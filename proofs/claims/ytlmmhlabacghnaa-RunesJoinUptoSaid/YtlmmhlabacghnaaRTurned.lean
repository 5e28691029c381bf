/- The reference's Turned (trestleref01): the runes from the last one to the first: its walk over the printed List. -/
import Derived.Test.YtlmmhlabacghnaaTurned
import Derived.Test.YtlmmhlabacghnaaPRx6
namespace Go.Proofs.Ytlmmhlabacghnaa.PR
open Go.RowKit Go.Proofs.YtlmmhlabacghnaaW.PrintWords Go.Proofs.YtlmmhlabacghnaaW.PrintLast Go.Proofs.YtlmmhlabacghnaaW.PrintMore Go.Proofs.Ytlmmhlabacghnaa.RuneMath
set_option linter.unusedVariables false
set_option linter.unusedSimpArgs false

/-- A rune as the reference's own record, and back. -/
def toR (r : R3) : S48 := ⟨r.1, r.2.1, r.2.2⟩
def ofR (r : S48) : Int × Int × Int := (r.f0, r.f1, r.f2)
def toI (r : R3) : Int × Int × Int := (r.1, r.2.1, r.2.2)
theorem ofR_inj : ∀ (l : List S48) (m : List R3), l.map ofR = m.map toI → l = m.map toR
  | [], [], _ => rfl
  | [], _ :: _, h => by simp at h
  | _ :: _, [], h => by simp at h
  | x :: l, y :: m, h => by
    simp only [List.map_cons, List.cons.injEq] at h
    rw [ofR_inj l m h.2]
    obtain ⟨x0, x1, x2⟩ := x
    have h1 := h.1
    simp only [ofR, toI, Prod.mk.injEq] at h1
    obtain ⟨rfl, rfl, rfl⟩ := h1
    rfl

def trestleref01_Turned.f (k : Nat) (a0 : ByteArray) : Option ByteArray :=
  (trestleref01_List.f k a0).bind fun l => if l.map ofR = (rs a0).map toI ∧ a0.size ≤ 140737488355327 then some ⟨(turnB a0 (rs a0)).toArray⟩ else none
theorem trestleref01_Turned.mono : ∀ a0 k, LeO (trestleref01_Turned.f k a0) (trestleref01_Turned.f (k + 1) a0) := by
  intro a0 k
  unfold trestleref01_Turned.f
  exact LeO.bind (trestleref01_List.mono _ _) (fun _ => LeO.refl _)

theorem str_back (l : List UInt8) : strOfNums (l.map fun b => (b.toNat : Int)) = ⟨l.toArray⟩ := by
  unfold strOfNums
  rw [List.map_map]
  have e : (l.map ((fun n : Int => UInt8.ofNat n.toNat) ∘ fun b : UInt8 => (b.toNat : Int))) = l := by
    conv => rhs; rw [← List.map_id l]
    exact List.map_congr_left fun b _ => by simp
  rw [e]
theorem nums_turn (s : ByteArray) (l : List R3) : turnC s l = nums .u8 ((turnB s l).map fun b => (b.toNat : Int)) := by
  rw [turnC_eq]
  simp [nums]

set_option maxHeartbeats 1000000 in
set_option maxRecDepth 100000 in
theorem trestleref01_Turned.calls (k : Nat) (a0 : ByteArray) (r : ByteArray) (w : World) (h : trestleref01_Turned.f k a0 = some r) :
    Calls Try.prog 39 #[.string a0] w fun e w' => e = .returned (.string r) ∧ Below w.heap.size w w' := by
  unfold trestleref01_Turned.f at h
  replace h := Option.bind_eq_some_iff.1 h
  obtain ⟨l, hl, h⟩ := h
  split at h
  · rename_i hc
    obtain rfl := Option.some.inj h
    have hlr := ofR_inj _ _ hc.1
    subst hlr
    have hs := hc.2
    have hn : (rs a0).length ≤ a0.size := rs_length a0
    have HL := Lib.hid hl
    have HC := Lib.hid hc
    clear h hl hc
    go_enter Try.func39, Try.ntmps39
    go_wp2_with (go_at_call 34; refine (trestleref01_List.calls k a0 _ _ HL.out).mono ?_; rintro e w1 ⟨v, rfl, hR, hb⟩; obtain ⟨A, c, hv, hle, hC⟩ := Kd.R_reads hR; rw [List.length_map] at hv; rw [hv] at hR; rw [hv]; have K := Lib.hid (And.intro hR (And.intro hb (And.intro hle hC))); clear hR hb hle hC hv)
    have hfit := rs_fits a0
    have HF := Lib.hid hfit
    clear hfit
    go_loopw [4, 5] (fun v4 v5 wr => ∃ (m : Nat) (done todo : List R3), v5 = .int .i64 ((m : Int) - 1) ∧ m ≤ (rs a0).length ∧ Hid (rs a0 = todo ++ done ∧ todo.length = m ∧ wr.ownsRow w1.heap.size 5 1 v4 (turnC a0 done).length (turnC a0 done) ∧ Below w1.heap.size w1 wr)) (fun v4 v5 _ => (intOf v5 + 1).toNat)
    case atStart => exact ⟨(rs a0).length, [], rs a0, rfl, Nat.le_refl _, (by simp), rfl, ⟨rfl, .inl ⟨rfl, rfl⟩⟩, Below.refl _ _⟩
    case round =>
      obtain ⟨m, done, todo, rfl, hm, HH⟩ := hrel
      by_cases h0 : m = 0
      · subst h0
        obtain ⟨e1, e2, e3, e4⟩ := HH.out
        obtain rfl : todo = [] := List.length_eq_zero_iff.1 e2
        have e5 : done = rs a0 := by simpa using e1.symm
        subst e5
        rw [nums_turn] at e3
        have hcv := own_string (P := Try.prog) (src := 79) (dst := 9) Try.underlying79 Try.underlying5 Try.underlying9 e3
        rw [str_back] at hcv
        obtain ⟨hR, hb, hle, hC⟩ := K.out
        have hbel := below_then hb hb.size e4
        have Q := Lib.hid hbel
        clear e1 e2 e3 e4 hR hb hle hC hbel HH
        go_wp2
        go_ret
        exact ⟨rfl, Q.out⟩
      · obtain ⟨e1, e2, e3, e4⟩ := HH.out
        obtain ⟨front, x, rfl⟩ : ∃ front x, todo = front ++ [x] := ⟨todo.dropLast, todo.getLast (by intro h; rw [h] at e2; simp at e2; omega), (List.dropLast_concat_getLast _).symm⟩
        obtain ⟨hR, hb, hle, hC⟩ := K.out
        have hR2 := Kd.R_below hR e4
        have hC2 := (Kd.R_reads' hR2).2.2
        rw [List.length_map] at hC2
        have hfl : front.length + 1 = m := by simpa using e2
        obtain ⟨ad, had, c0, c1, c2⟩ := at_T48 hC2 ((m : Int) - 1) (by omega) (by omega)
        have hrd : rd_T48 ((rs a0).map toR) ((m : Int) - 1) = toR x := by
          rw [e1]
          unfold rd_T48
          rw [show ((m : Int) - 1).toNat = front.length by omega]
          simp
        rw [hrd] at c0 c1 c2
        rw [show ((m : Int) - 1).toNat = m - 1 by omega] at c0 c1 c2
        simp only [toR] at c0 c1 c2
        subst had
        have hx := HF.out x (by rw [e1]; simp)
        have s1 := slice_s a0 x hx
        have w4_1 : IntKind.i64.wrap ((x.1 : Int) + (x.2.1 : Int)) = (x.1 : Int) + (x.2.1 : Int) := IntWalk.i64_in _ (by omega)
        have p1 : 0 ≤ (m : Int) - 1 := by omega
        have p2 : (m : Int) - 1 < ((rs a0).length : Int) := by omega
        have F := Lib.hid (And.intro e1 (And.intro e2 (And.intro e3 (And.intro e4 (And.intro hfl hx)))))
        clear e1 e2 e3 e4 hR hb hle hC hR2 hC2 hrd HH hfl
        go_wp2
        go_still_tail 19, (by kernel_rfl)
        obtain ⟨i0, hi, hz0, hz1, hz2⟩ := info_parts infoU8
        obtain ⟨e1, e2, e3, e4, hfl, hx⟩ := F.out
        have hle := (turnB_size a0 done (fun r hr => HF.out r (by rw [e1]; simp [hr])))
        have hb3 := bytes3_rs a0
        rw [e1] at hb3
        have hbig : (turnC a0 done).length + (own3 a0 x).size ≤ 140737488355328 := by
          have h1 : (turnC a0 done).length = bytes3 done := by rw [turnC_eq, List.length_map, hle]
          have h2 := own3_size a0 x hx
          have h3 : bytes3 (front ++ [x] ++ done) = bytes3 front + x.2.1 + bytes3 done := by simp [bytes3]; omega
          omega
        have HBIG := Lib.hid hbig
        have e3d : wr.drew.ownsRow w1.heap.size 5 1 u4 (turnC a0 done).length (turnC a0 done) := e3
        have e4d : Below w1.heap.size w1 wr.drew := e4.drew
        have G := Lib.hid (And.intro e3d e4d)
        change wpList _ _ _ _ _ wr.drew
        refine Lib.wpList_append_own_string wr.drew rfl (.tmp 15) (.tmp 33) 79 9 rfl w1.heap.size 5 i0 Try.underlying79 Try.underlying9 hi hz0 hz1 hz2 u4 (turnC a0 done).length (turnC a0 done) rfl G.out.1 (own3 a0 x) rfl (by have := HBIG.out; unfold maxLen; omega) HBIG.out e4d.size ?_
        intro v2 w2 hown hgr _
        have hown2 : w2.ownsRow w1.heap.size 5 1 v2 (turnC a0 (x :: done)).length (turnC a0 (x :: done)) := by
          have e : (turnC a0 (x :: done)).length = (turnC a0 done).length + (own3 a0 x).size := by simp [turnC, Lib.strCells]
          rw [e]
          exact hown
        have hb2 : Below w1.heap.size w1 w2 := e4d.grown hgr e4d.size (own_base e3d)
        have Y := Lib.hid (And.intro hown2 hb2)
        have E1 := Lib.hid (And.intro e1 hfl)
        clear e1 e2 e3 e4 hfl hx hle hb3 hbig HBIG e3d e4d G hown hgr hown2 hb2 c0 c1 c2 s1 w4_1 F
        go_wp2
        go_roundw
        case rel =>
          obtain ⟨e1, hfl⟩ := E1.out
          exact ⟨m - 1, x :: done, front, (by first | (congr 1; omega) | omega), by omega, (by rw [e1]; simp), by omega, Y.out.1, Y.out.2⟩
        case measure => simp [intOf]; omega
  · cases h
end Go.Proofs.Ytlmmhlabacghnaa.PR
