/- nodes: fixed (the document's first three examples). -/
import Derived.Test.YtlmmhlabacghnaaNZ
namespace Go.Proofs.Ytlmmhlabacghnaa.PH
open Go.RowKit Go.Proofs.YtlmmhlabacghnaaW.PrintWords Go.Proofs.YtlmmhlabacghnaaW.PrintLast Go.Proofs.YtlmmhlabacghnaaW.PrintMore
open Go.Proofs.Ytlmmhlabacghnaa.HM
set_option linter.unusedVariables false
set_option linter.unusedSimpArgs false

/-- A whole number as a key. -/
def kI (n : Int) : Ky := ⟨2, n, ⟨#[]⟩⟩
def zN : Nd := z67
def fx0 : List Nd := [zN, zN, zN, zN]
def fx1 : List Nd := [⟨kI 3, kI 1, 0⟩, zN, zN, zN]
def fx2 : List Nd := [⟨kI 3, kI 1, 3⟩, zN, zN, ⟨kI 6, kI 1, 0⟩]
def fx3 : List Nd := [⟨kI 3, kI 1, 2⟩, zN, ⟨kI 9, kI 1, 1⟩, ⟨kI 6, kI 1, 0⟩]
def fx4 : List Nd := [⟨kI 3, kI 1, 1⟩, ⟨kI 9, kI 1, 2⟩, ⟨kI 2, kI 1, 0⟩, ⟨kI 6, kI 1, 0⟩]
theorem fxm (n : Int) (m : Nat) (h : hp 4 (kI n) = m) (hk : okB 2 n ⟨#[]⟩ = true) : hash_Main.f 2 n ⟨#[]⟩ (4 : Nat) = some ((m : Int), 0) := by
  have := hp_main (N := 4) (by decide) (k := kI n) ⟨hk, by show (2 : Int) ≠ 0; decide⟩
  rw [h] at this
  exact this
theorem m3 : hash_Main.f 2 3 ⟨#[]⟩ (4 : Nat) = some (((0 : Nat) : Int), 0) := fxm 3 0 (by decide +kernel) (by decide +kernel)
theorem m6 : hash_Main.f 2 6 ⟨#[]⟩ (4 : Nat) = some (((0 : Nat) : Int), 0) := fxm 6 0 (by decide +kernel) (by decide +kernel)
theorem m9 : hash_Main.f 2 9 ⟨#[]⟩ (4 : Nat) = some (((0 : Nat) : Int), 0) := fxm 9 0 (by decide +kernel) (by decide +kernel)
theorem m2 : hash_Main.f 2 2 ⟨#[]⟩ (4 : Nat) = some (((2 : Nat) : Int), 0) := fxm 2 2 (by decide +kernel) (by decide +kernel)
theorem s3 : findL fx0 (kI 3) 5 0 1 = some (-1, 1) := by decide +kernel
theorem s6 : findL fx1 (kI 6) 5 0 1 = some (-1, 1) := by decide +kernel
theorem s9 : findL fx2 (kI 9) 5 0 1 = some (-1, 2) := by decide +kernel
theorem s2 : findL fx3 (kI 2) 5 2 1 = some (-1, 2) := by decide +kernel
theorem s6' : findL fx4 (kI 6) 5 0 1 = some (3, 3) := by decide +kernel
theorem i3 : PutR fx0 4 (kI 3) (kI 1) 0 (-1) fx1 4 0 := .new rfl (by decide) _ _ _ (.a rfl)
theorem i6 : PutR fx1 4 (kI 6) (kI 1) 0 (-1) fx2 3 0 := .new rfl (by decide) _ _ _ (.c (by decide) 3 (by decide +kernel) (by decide) m3 (by decide))
theorem i9 : PutR fx2 3 (kI 9) (kI 1) 0 (-1) fx3 2 0 := .new rfl (by decide) _ _ _ (.c (by decide) 2 (by decide +kernel) (by decide) m3 (by decide))
theorem i2 : PutR fx3 2 (kI 2) (kI 1) 2 (-1) fx4 1 0 := .new rfl (by decide) _ _ _ (Ins.d (l := fx3) (f := 2) (n := ⟨kI 2, kI 1, 0⟩) (m := 2) (by decide) 1 (by decide +kernel) (by decide) 0 m9 (by decide) (by decide) 5 0 (by decide +kernel))

/-- A part that the run has made since world w0, among the run's own memory. -/
structure St (w0 : World) (g a cap : Nat) (l : List Nd) (f : Int) (w : World) : Prop where
  p : IsP w0.heap.size g a cap l f w
  b : Below w0.heap.size w0 w
  g : w0.heap.size ≤ g
theorem St.below {w0 w w' : World} {g a cap : Nat} {l : List Nd} {f : Int} (h : St w0 g a cap l f w) (hb : Below w.heap.size w w') : St w0 g a cap l f w' :=
  ⟨h.p.below hb, h.b.trans (hb.mono h.b.size), h.g⟩
theorem IsP.base {B g a cap : Nat} {l : List Nd} {f : Int} {w : World} (h : IsP B g a cap l f w) : B ≤ a := by
  exact Kd.R_base h.row a (by simp [Value.ownBlock])
theorem St.put {w0 w w' : World} {g a cap : Nat} {l l' : List Nd} {f f' : Int} (h : St w0 g a cap l f w) (hI : IsP w0.heap.size g a cap l' f' w') (hF : Fr (fun k => k = g ∨ k = a) w w') : St w0 g a cap l' f' w' :=
  ⟨hI, h.b.trans ⟨hF.os, hF.tape, hF.output, hF.size, fun k hk => hF.block k (Nat.lt_of_lt_of_le hk h.b.size) (fun e => by have := h.g; have := h.p.base; rcases e with e | e <;> omega)⟩, h.g⟩

theorem field_key (a b c d e : Int) (s t : ByteArray) (w : World) : (Instr.field 67 (.agg #[.int .i64 a, .int .i64 b, .string s, .int .i64 c, .int .i64 d, .string t, .int .i64 e]) 0).run Try.prog w = .ok (.agg #[.int .i64 a, .int .i64 b, .string s]) w := by kernel_rfl
theorem field_next (a b c d e : Int) (s t : ByteArray) (w : World) : (Instr.field 67 (.agg #[.int .i64 a, .int .i64 b, .string s, .int .i64 c, .int .i64 d, .string t, .int .i64 e]) 2).run Try.prog w = .ok (.int .i64 e) w := by kernel_rfl
set_option maxHeartbeats 8000000 in
set_option maxRecDepth 100000 in
theorem fixed_call (w : World) : Calls Try.prog 44 #[] w fun e w' => e = .returned (.bool true) ∧ Below w.heap.size w w' := by
  have hf0 := field_key
  have hf2 := field_next
  go_enter Try.func44, Try.ntmps44
  go_wp2_with fail
  refine (new_call w 4 (by omega) (by decide +kernel)).mono ?_
  rintro e w1 ⟨g, a, cap, rfl, hI, hb, hg⟩
  have I1 : RowKit.Hid (St w g a cap fx0 (4 : Nat) w1) := Lib.hid ⟨hI, hb, hg⟩
  clear hI hb hg
  go_wp2_with fail
  refine (trestleref03_I.calls 3 2 3 ⟨#[]⟩ _ rfl).mono ?_
  rintro e w2 ⟨rfl, hb⟩
  have I2 := Lib.hid (I1.out.below hb)
  clear hb I1
  go_wp2_with fail
  refine (trestleref03_I.calls 1 2 1 ⟨#[]⟩ _ rfl).mono ?_
  rintro e w3 ⟨rfl, hb⟩
  have I3 := Lib.hid (I2.out.below hb)
  clear hb I2
  go_wp2_with fail
  have hx := put_call (l := fx0) (f := 4) I3.out.p I3.out.b.size (by decide) (kI 3) (kI 1) (by decide +kernel) (by decide +kernel) (by decide) 0 m3 (by decide) 5 (-1) 1 s3 i3
  refine hx.mono ?_
  rintro e w4 ⟨rfl, hI, hF⟩
  have I4 := Lib.hid (I3.out.put hI hF)
  clear hI hF hx I3
  go_wp2_with fail
  refine (trestleref03_I.calls 6 2 6 ⟨#[]⟩ _ rfl).mono ?_
  rintro e w5 ⟨rfl, hb⟩
  have I5 := Lib.hid (I4.out.below hb)
  clear hb I4
  go_wp2_with fail
  refine (trestleref03_I.calls 1 2 1 ⟨#[]⟩ _ rfl).mono ?_
  rintro e w6 ⟨rfl, hb⟩
  have I6 := Lib.hid (I5.out.below hb)
  clear hb I5
  go_wp2_with fail
  have hx := put_call (l := fx1) (f := 4) I6.out.p I6.out.b.size (by decide) (kI 6) (kI 1) (by decide +kernel) (by decide +kernel) (by decide) 0 m6 (by decide) 5 (-1) 1 s6 i6
  refine hx.mono ?_
  rintro e w7 ⟨rfl, hI, hF⟩
  have I7 := Lib.hid (I6.out.put hI hF)
  clear hI hF hx I6
  go_wp2_with fail
  refine (trestleref03_I.calls 9 2 9 ⟨#[]⟩ _ rfl).mono ?_
  rintro e w8 ⟨rfl, hb⟩
  have I8 := Lib.hid (I7.out.below hb)
  clear hb I7
  go_wp2_with fail
  refine (trestleref03_I.calls 1 2 1 ⟨#[]⟩ _ rfl).mono ?_
  rintro e w9 ⟨rfl, hb⟩
  have I9 := Lib.hid (I8.out.below hb)
  clear hb I8
  go_wp2_with fail
  have hx := put_call (l := fx2) (f := 3) I9.out.p I9.out.b.size (by decide) (kI 9) (kI 1) (by decide +kernel) (by decide +kernel) (by decide) 0 m9 (by decide) 5 (-1) 2 s9 i9
  refine hx.mono ?_
  rintro e w10 ⟨rfl, hI, hF⟩
  have I10 := Lib.hid (I9.out.put hI hF)
  clear hI hF hx I9
  go_wp2_with fail
  refine (trestleref03_I.calls 2 2 2 ⟨#[]⟩ _ rfl).mono ?_
  rintro e w11 ⟨rfl, hb⟩
  have I11 := Lib.hid (I10.out.below hb)
  clear hb I10
  go_wp2_with fail
  refine (trestleref03_I.calls 1 2 1 ⟨#[]⟩ _ rfl).mono ?_
  rintro e w12 ⟨rfl, hb⟩
  have I12 := Lib.hid (I11.out.below hb)
  clear hb I11
  go_wp2_with fail
  have hx := put_call (l := fx3) (f := 2) I12.out.p I12.out.b.size (by decide) (kI 2) (kI 1) (by decide +kernel) (by decide +kernel) (by decide) 2 m2 (by decide) 5 (-1) 2 s2 i2
  refine hx.mono ?_
  rintro e w13 ⟨rfl, hI, hF⟩
  have I13 := Lib.hid (I12.out.put hI hF)
  clear hI hF hx I12
  go_wp2_with fail
  refine (trestleref03_I.calls 6 2 6 ⟨#[]⟩ _ rfl).mono ?_
  rintro e w14 ⟨rfl, hb⟩
  have I14 := Lib.hid (I13.out.below hb)
  clear hb I13
  go_wp2_with fail
  have hx := find_call (l := fx4) I14.out.p (kI 6) 0 m6 (by decide) 5 3 3 s6'
  refine hx.mono ?_
  rintro e w15 ⟨rfl, hb⟩
  have I15 := Lib.hid (I14.out.below hb)
  clear hb hx I14
  go_wp2_with fail
  refine (at_call I15.out.p 1 (by decide)).mono ?_
  rintro e w16 ⟨rfl, hb⟩
  have I16 := Lib.hid (I15.out.below hb)
  clear hb I15
  rw [show nv (nd fx4 1) = nv ⟨kI 9, kI 1, 2⟩ from rfl]
  unfold nv kI
  go_wp2_with fail
  refine (trestleref03_I.calls 9 2 9 ⟨#[]⟩ _ rfl).mono ?_
  rintro e w17 ⟨rfl, hb⟩
  have I17 := Lib.hid (I16.out.below hb)
  clear hb I16
  go_wp2_with fail
  refine (at_call I17.out.p 1 (by decide)).mono ?_
  rintro e w18 ⟨rfl, hb⟩
  have I18 := Lib.hid (I17.out.below hb)
  clear hb I17
  rw [show nv (nd fx4 1) = nv ⟨kI 9, kI 1, 2⟩ from rfl]
  unfold nv kI
  go_wp2_with fail
  refine (at_call I18.out.p 0 (by decide)).mono ?_
  rintro e w19 ⟨rfl, hb⟩
  have I19 := Lib.hid (I18.out.below hb)
  clear hb I18
  rw [show nv (nd fx4 0) = nv ⟨kI 3, kI 1, 1⟩ from rfl]
  unfold nv kI
  go_wp2_with fail
  refine (free_call I19.out.p).mono ?_
  rintro e w20 ⟨rfl, rfl⟩
  go_wp2_with fail
  go_ret
  exact ⟨rfl, I19.out.b⟩
end Go.Proofs.Ytlmmhlabacghnaa.PH
