/- nodes: room. -/
import Derived.Test.YtlmmhlabacghnaaNL
namespace Go.Proofs.Ytlmmhlabacghnaa.PH
open Go.RowKit Go.Proofs.YtlmmhlabacghnaaW.PrintWords Go.Proofs.YtlmmhlabacghnaaW.PrintLast Go.Proofs.YtlmmhlabacghnaaW.PrintMore
set_option linter.unusedVariables false
set_option linter.unusedSimpArgs false

/-- The free pointer goes down to a node without a key: the node (-1: none), and where the pointer stands then. -/
def roomL (l : List S67) : Nat → Int × Nat
  | 0 => (-1, 0)
  | f + 1 => if (nd l f).f0.f0 = 0 then ((f : Int), f) else roomL l f
theorem IsP.setFree {B g a cap : Nat} {l : List S67} {f : Int} {w : World} (h : IsP B g a cap l f w) (f' : Int) : IsP B g a cap l f' (w.setCell ⟨g, 1, none⟩ (.int .i64 f')) :=
  ⟨blk_put (cs := #[.slice (some ⟨a, 0, none⟩) l.length cap, .int .i64 f]) h.blk 1 _ rfl, Kd.R_far (p := ⟨g, 1, none⟩) h.row (fun k hk => by rw [hk]; exact fun e => h.ne e.symm) _, h.ne, h.len⟩
theorem fr_set (w : World) (g j : Nat) (v : Value) : Fr (fun k => k = g) w (w.setCell ⟨g, j, none⟩ v) :=
  ⟨rfl, rfl, rfl, by simp [World.setCell], fun k _ hk => Below.heap_setCell _ _ _ _ hk⟩

set_option maxHeartbeats 4000000 in
set_option maxRecDepth 100000 in
theorem room_call {B g a cap : Nat} {l : List S67} {f : Nat} {w : World} (h : IsP B g a cap l f w) (hf : f ≤ l.length) :
    Calls Try.prog 89 #[.pointer (some ⟨g, 0, none⟩)] w fun e w' => e = .returned (.int .i64 (roomL l f).1) ∧ IsP B g a cap l (roomL l f).2 w' ∧ Fr (fun k => k = g) w w' := by
  have H := Lib.hid (And.intro h hf)
  have hlen := h.len
  clear h hf
  go_enter Try.func89, Try.ntmps89
  go_wp2_with fail
  go_loopg [] f (fun kq wr => RowKit.Hid (roomL l kq = roomL l f) ∧ RowKit.Hid (IsP B g a cap l kq wr) ∧ kq ≤ f ∧ RowKit.Hid (Fr (fun k => k = g) w wr))
  case atStart => exact ⟨Lib.hid rfl, Lib.hid H.out.1, Nat.le_refl _, Lib.hid (Fr.refl _ _)⟩
  case round =>
    obtain ⟨hr, hI, hk, hF⟩ := hrel
    obtain ⟨x0, x1, y0, y1⟩ := two_of hI.out.blk
    cases gk with
    | zero =>
      go_wp2_with fail
      go_ret
      have hr := hr.out
      rw [← hr]
      exact ⟨rfl, hI.out, hF.out⟩
    | succ k1 =>
      have hlt : k1 < l.length := by have := H.out.2; omega
      have hkk : (k1 : Int) ≤ 65536 := by omega
      have p1 : 0 ≤ (k1 : Int) := by omega
      have p2 : (k1 : Int) < (l.length : Int) := by omega
      replace p1 := eq_true p1
      replace p2 := eq_true p2
      have p3 : decide (0 < ((k1 + 1 : Nat) : Int)) = true := decide_eq_true (by omega)
      have p4 : decide (0 < (k1 : Int) + 1) = true := decide_eq_true (by omega)
      have HL := Lib.hid hlt
      clear hlt
      have hmx : Try.prog.follows .mixedOrders = true := by kernel_rfl
      go_wp2_with fail
      obtain ⟨w1, hw1, hI1, hF1⟩ : ∃ w1, wr.setCell ⟨g, 1, none⟩ (.int .i64 (k1 : Int)) = w1 ∧ IsP B g a cap l (k1 : Int) w1 ∧ Fr (fun k => k = g) wr w1 := ⟨_, rfl, hI.out.setFree (k1 : Int), fr_set wr g 1 _⟩
      rw [hw1]
      clear x0 x1 y0 y1
      obtain ⟨x0, x1, y0, y1⟩ := two_of hI1.blk
      obtain ⟨e0, e1, e2, e3, e4, e5, e6⟩ := hI1.at k1 HL.out
      have P := Lib.hid (And.intro hI1 hF1)
      clear hI1 hF1 hw1
      go_still_tail 10, (by kernel_rfl)
      change wpList _ _ _ _ _ w1.drew
      have he := nodes_Node_empty.calls (nd l k1).f0.f0 (nd l k1).f0.f1 (nd l k1).f0.f2 (nd l k1).f1.f0 (nd l k1).f1.f1 (nd l k1).f1.f2 (nd l k1).f2 _ w1.drew rfl
      go_wp2_with fail
      refine he.mono ?_
      rintro e w3 ⟨rfl, hb3⟩
      have HI3 := Lib.hid ((P.out.1.below (Below.refl _ _).drew).below hb3)
      have HF3 := Lib.hid (hF.out.trans (P.out.2.trans (Fr.of_below ((Below.refl _ _).drew.trans (hb3.mono (Nat.le_refl _))))))
      obtain ⟨z0, z1, u0, u1⟩ := two_of HI3.out.blk
      clear he hb3 x0 x1 y0 y1 e0 e1 e2 e3 e4 e5 e6
      have hr1 := hr.out
      simp only [roomL] at hr1
      by_cases hz : (nd l k1).f0.f0 = 0
      · rw [if_pos hz] at hr1
        have hzb : ((nd l k1).f0.f0 == 0) = true := beq_iff_eq.2 hz
        rw [hzb]
        clear hz hzb
        have R := Lib.hid hr1
        clear hr1
        go_wp2_with fail
        go_ret
        have hr2 := R.out
        rw [← hr2]
        exact ⟨rfl, HI3.out, HF3.out⟩
      · rw [if_neg hz] at hr1
        have hzb : ((nd l k1).f0.f0 == 0) = false := beq_eq_false_iff_ne.2 hz
        rw [hzb]
        clear hz hzb
        have R := Lib.hid hr1
        clear hr1
        go_wp2_with fail
        go_roundg k1
        case measure => omega
        case rel => exact ⟨R, HI3, by omega, HF3⟩
end Go.Proofs.Ytlmmhlabacghnaa.PH
