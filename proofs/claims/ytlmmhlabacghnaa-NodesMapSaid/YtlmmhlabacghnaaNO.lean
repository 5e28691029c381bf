/- nodes: the calls that a law plays, in memory; begin, of any size. -/
import Derived.Test.YtlmmhlabacghnaaNQ
namespace Go.Proofs.Ytlmmhlabacghnaa.PH
open Go.RowKit Go.Proofs.YtlmmhlabacghnaaW.PrintWords Go.Proofs.YtlmmhlabacghnaaW.PrintLast Go.Proofs.YtlmmhlabacghnaaW.PrintMore
open Go.Proofs.Ytlmmhlabacghnaa.HM
set_option linter.unusedVariables false
set_option linter.unusedSimpArgs false

/-- One call that a law plays. -/
structure OpD where
  kind : Int
  key : Ky
  val : Ky
def zO : OpD := ⟨0, z30, z30⟩
def kO : Kd OpD := Kd.iso (Kd.pair (Kd.int .i64) (Kd.pair k30 k30)) (fun x : OpD => (x.kind, x.key, x.val))
def ocells (x : OpD) : List Value := [.int .i64 x.kind, .int .i64 x.key.f0, .int .i64 x.key.f1, .string x.key.f2, .int .i64 x.val.f0, .int .i64 x.val.f1, .string x.val.f2]
theorem kO_open {w : World} {x : OpD} {cs : List Value} (h : kO.K w x cs) : cs = ocells x := by
  obtain ⟨_, _, rfl, rfl, ⟨_, _, rfl, s1, s2⟩⟩ := h
  obtain rfl := k30_open s1
  obtain rfl := k30_open s2
  exact rfl
theorem kO_mk (w : World) (x : OpD) : kO.K w x (ocells x) := ⟨[.int .i64 x.kind], _, rfl, rfl, ⟨[.int .i64 x.key.f0, .int .i64 x.key.f1, .string x.key.f2], _, rfl, k30_mk w x.key, k30_mk w x.val⟩⟩
def od (l : List OpD) (i : Nat) : OpD := l.getD i zO
/-- The cells of an operation that came in. -/
theorem at_op {w : World} {A : Option Addr} {n : Nat} {xs : List OpD} (h : Kd.C kO w A n xs) (i : Nat) (h1 : i < n) : ∃ ad, A = some ad ∧ w.cell? (ad.add (i * 7)) = some (.int .i64 (od xs i).kind) ∧
    w.cell? ⟨(ad.add (i * 7)).block, (ad.add (i * 7)).off + 1, none⟩ = some (.int .i64 (od xs i).key.f0) ∧ w.cell? ⟨(ad.add (i * 7)).block, (ad.add (i * 7)).off + 2, none⟩ = some (.int .i64 (od xs i).key.f1) ∧ w.cell? ⟨(ad.add (i * 7)).block, (ad.add (i * 7)).off + 3, none⟩ = some (.string (od xs i).key.f2) ∧
    w.cell? ⟨(ad.add (i * 7)).block, (ad.add (i * 7)).off + 4, none⟩ = some (.int .i64 (od xs i).val.f0) ∧ w.cell? ⟨(ad.add (i * 7)).block, (ad.add (i * 7)).off + 5, none⟩ = some (.int .i64 (od xs i).val.f1) ∧ w.cell? ⟨(ad.add (i * 7)).block, (ad.add (i * 7)).off + 6, none⟩ = some (.string (od xs i).val.f2) := by
  obtain ⟨ad, c, e, _, hK, hc0⟩ := Kd.C_get h zO (i : Int) (by omega) (by omega)
  rw [Int.toNat_natCast] at hK hc0
  have hc : ∀ j u, c[j]? = some u → w.cell? (ad.add (i * 7 + j)) = some u := hc0
  obtain rfl := kO_open hK
  exact ⟨ad, e, hc 0 _ rfl, by rw [← add_field _ _ 1 (by omega)]; exact hc 1 _ rfl, by rw [← add_field _ _ 2 (by omega)]; exact hc 2 _ rfl, by rw [← add_field _ _ 3 (by omega)]; exact hc 3 _ rfl, by rw [← add_field _ _ 4 (by omega)]; exact hc 4 _ rfl, by rw [← add_field _ _ 5 (by omega)]; exact hc 5 _ rfl, by rw [← add_field _ _ 6 (by omega)]; exact hc 6 _ rfl⟩

theorem field_kind (a b : Int) (s : ByteArray) (w : World) : (Instr.field 30 (.agg #[.int .i64 a, .int .i64 b, .string s]) 0).run Try.prog w = .ok (.int .i64 a) w := by kernel_rfl
/-- May a part have that size? -/
def RightN (s : Int) : Prop := s = 0 ∨ Pow s
theorem right_any {s : Int} (h : -9223372036854775808 ≤ s ∧ s ≤ 9223372036854775807) : ∃ r, trestleref07_Right.f 18 s = some r ∧ (r = true ↔ RightN s) := by
  unfold trestleref07_Right.f RightN
  by_cases h0 : s = 0
  · refine ⟨true, ?_, ?_⟩
    · first | rw [if_pos h0] | simp [h0]
    · simp [h0]
  · rw [if_neg h0, power_eq _ 18 (Nat.le_refl _)]
    refine ⟨decide (Pow s), rfl, ?_⟩
    rw [decide_eq_true_iff]
    exact ⟨.inr, fun h => h.resolve_left h0⟩
theorem bits_right {s : Int} (h : RightN s) : Go.bits .and .i64 s (s - 1) = 0 := by
  rcases h with rfl | h
  · decide +kernel
  · have h1 := pow_range h
    obtain ⟨n, rfl⟩ : ∃ n : Nat, s = n := ⟨s.toNat, by omega⟩
    exact and_zero h
theorem bits_wrong {s : Int} (h : ¬ RightN s) (h0 : 0 ≤ s ∧ s ≤ 65536) : Go.bits .and .i64 s (s - 1) ≠ 0 := by
  have hs0 : s ≠ 0 := fun e => h (.inl e)
  obtain ⟨n, rfl⟩ : ∃ n : Nat, s = n := ⟨s.toNat, by omega⟩
  rw [and_i64 (n : Int) ((n : Int) - 1) (by omega) (by omega) (by omega) (by omega), Int.toNat_natCast, show ((n : Int) - 1).toNat = n - 1 by omega]
  intro e
  have e2 : n &&& (n - 1) = 0 := by omega
  exact h (.inr ((land_pow n (by omega) (by omega)).1 e2))

set_option maxHeartbeats 4000000 in
set_option maxRecDepth 100000 in
theorem begin_yes (w : World) (n : Nat) (hp1 : RightN n) (hn : n ≤ 4096) : Calls Try.prog 45 #[.int .i64 n] w fun e w' => ∃ g a cap q, e = .returned (.tuple #[.pointer (some ⟨g, 0, none⟩), .pointer (some ⟨q, 0, none⟩), .bool true]) ∧ St w g a cap (List.replicate n zN) n w' := by
  have d1 : decide ((n : Int) > 4096) = false := decide_eq_false (by omega)
  have d2 : decide (4096 < (n : Int)) = false := decide_eq_false (by omega)
  obtain ⟨r, hr, hrt⟩ := right_any (s := (n : Int)) (by omega)
  obtain rfl : r = true := hrt.2 hp1
  have HR := Lib.hid hr
  have HZ := Lib.hid (bits_right hp1)
  clear hp1 hr hrt
  go_enter Try.func45, Try.ntmps45
  go_wp2_with fail
  refine (trestleref07_Right.calls 18 n true _ HR.out).mono ?_
  rintro e w1 ⟨rfl, nd1, rfl⟩
  go_wp2_with fail
  refine (new_call _ n (by omega) HZ.out).mono ?_
  rintro e w2 ⟨g, a, cap, rfl, hI, hb, hg⟩
  have I2 : RowKit.Hid (St w g a cap (List.replicate n zN) n w2) := Lib.hid ⟨hI, (by have h := hb; exact (pw_below_drewN (Below.refl w.heap.size w) nd1).trans h), hg⟩
  clear hI hb hg
  go_wp2_with fail
  refine (refnew_call _ n (by omega)).mono ?_
  rintro e w3 ⟨⟨q, rfl⟩, hb⟩
  have I3 := Lib.hid (I2.out.below hb)
  clear hb I2
  go_wp2_with fail
  go_ret3
  exact ⟨_, _, _, _, rfl, I3.out⟩
set_option maxHeartbeats 4000000 in
set_option maxRecDepth 100000 in
theorem begin_no (w : World) (s : Int) (hs : -9223372036854775808 ≤ s ∧ s ≤ 9223372036854775807) (h : ¬ RightN s ∨ 4096 < s) : Calls Try.prog 45 #[.int .i64 s] w fun e w' => e = .returned (.tuple #[.pointer none, .pointer none, .bool false]) ∧ Below w.heap.size w w' := by
  obtain ⟨r, hr, hrt⟩ := right_any hs
  have HR := Lib.hid hr
  cases r with
  | false =>
    clear hrt hr h hs
    go_enter Try.func45, Try.ntmps45
    go_wp2_with fail
    refine (trestleref07_Right.calls 18 s false _ HR.out).mono ?_
    rintro e w1 ⟨rfl, nd1, rfl⟩
    go_wp2_with fail
    go_ret3
    exact ⟨rfl, pw_below_drewN (Below.refl w.heap.size w) nd1⟩
  | true =>
    have h2 : 4096 < s := h.resolve_left (fun e => e (hrt.1 rfl))
    have d1 : decide (s > 4096) = true := decide_eq_true (by omega)
    have d2 : decide (4096 < s) = true := decide_eq_true (by omega)
    clear hrt hr h hs h2
    go_enter Try.func45, Try.ntmps45
    go_wp2_with fail
    refine (trestleref07_Right.calls 18 s true _ HR.out).mono ?_
    rintro e w1 ⟨rfl, nd1, rfl⟩
    go_wp2_with fail
    go_ret3
    exact ⟨rfl, pw_below_drewN (Below.refl w.heap.size w) nd1⟩
theorem zeros_inv {n : Nat} (h : RightN n) : InvE (List.replicate n zN) n := by
  have hlen : (List.replicate n zN).length = n := List.length_replicate
  refine ⟨by rw [hlen]; exact Nat.le_refl _, ?_⟩
  rcases h with h | h
  · refine .inl ?_
    obtain rfl : n = 0 := by omega
    rfl
  · have hz : ∀ p, nd (List.replicate n zN) p = zN := fun p => by
      unfold nd
      rw [List.getD_eq_getElem?_getD, List.getElem?_replicate]
      by_cases hp : p < n
      · rw [if_pos hp]; rfl
      · rw [if_neg hp]; rfl
    have hz0 : ∀ p, (nd (List.replicate n zN) p).f0.f0 = 0 := fun p => by rw [hz]; rfl
    exact .inr ⟨fun _ => [], by rw [hlen]; exact h, by rw [hlen]; exact Nat.le_refl _, fun p h1 h2 => by rw [hlen] at h2; omega, fun p _ _ => hz p, fun p _ h2 => absurd (hz0 p) h2, fun p q _ _ h2 => absurd (hz0 p) h2, fun m p hp => by simp at hp, fun p _ h2 => absurd (hz0 p) h2, fun m => .inl rfl, fun m => List.nodup_nil, fun m => trivial⟩
end Go.Proofs.Ytlmmhlabacghnaa.PH
