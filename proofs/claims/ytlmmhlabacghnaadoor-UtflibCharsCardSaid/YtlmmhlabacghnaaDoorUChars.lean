/- UtflibChars: Char of any numbers; what is handed in stays: its walk. -/
import Derived.Test.YtlmmhlabacghnaaDoorUChar
import Derived.Test.YtlmmhlabacghnaaDoorPRx16
import Derived.Test.YtlmmhlabacghnaaDoorRC0
import Derived.Test.YtlmmhlabacghnaaDoorUP
import Derived.OwnWalk
namespace Go.Proofs.YtlmmhlabacghnaaDoor.PR
open Go.RowKit Go.Proofs.YtlmmhlabacghnaaDoorW.PrintWords Go.Proofs.YtlmmhlabacghnaaDoorW.PrintLast Go.Proofs.YtlmmhlabacghnaaDoorW.PrintMore Go.Proofs.YtlmmhlabacghnaaDoor.RuneMath
set_option linter.unusedVariables false
set_option linter.unusedSimpArgs false

def nums (acc : List UInt8) : List Int := acc.map fun b => (b.toNat : Int)
theorem nums_bytes (t : ByteArray) (acc : List UInt8) : nums acc ++ bytesOf t = nums (acc ++ t.data.toList) := by simp [nums, bytesOf]
theorem str_nums (acc : List UInt8) : strOfNums (nums acc) = ⟨acc.toArray⟩ := by
  unfold strOfNums nums
  rw [List.map_map]
  congr 2
  conv => rhs; rw [← List.map_id acc]
  apply List.map_congr_left
  intro b _
  simp
theorem rchar_l0 (l : List Int) (hl : l.length ≤ 4611686018427387904) : ∀ (suf pre : List Int) (acc : List UInt8) (k : Nat), l = pre ++ suf → suf.length + 11 ≤ k → acc.length ≤ 10000 →
    trestleref17_Char.l0 k l (nums acc) (pre.length : Int) = some (charL acc suf)
  | suf, pre, acc, 0, _, hk, _ => by omega
  | [], pre, acc, k + 1, h, hk, ha => by
    have hll : l.length = pre.length := by rw [h]; simp
    simp only [trestleref17_Char.l0, charL]
    rw [if_neg (by omega), str_nums]
  | c :: suf, pre, acc, k + 1, h, hk, ha => by
    have hll : l.length = pre.length + (suf.length + 1) := by rw [h]; simp
    have hk2 : suf.length + 11 ≤ k := by
      have : (c :: suf).length = suf.length + 1 := rfl
      omega
    simp only [trestleref17_Char.l0, charL]
    rw [if_pos (show (pre.length : Int) < (l.length : Int) by omega), if_pos (show 0 ≤ (pre.length : Int) by omega)]
    have hrd : rd l (pre.length : Int) = c := by rw [h]; simp [rd]
    obtain ⟨j, rfl⟩ : ∃ j, k = j + 10 := ⟨k - 10, by omega⟩
    rw [hrd, RC.ref_encode j c, Option.bind_some]
    by_cases hv : Utf8.valid c = true
    · rw [if_pos hv, if_pos hv]
      have hz := encode_small c hv
      generalize Utf8.encode c = t at hz ⊢
      have hnl : (nums acc).length = acc.length := by simp [nums]
      have hlen : (acc ++ t.data.toList).length = acc.length + t.size := by rw [List.length_append, data_length]
      dsimp only
      rw [if_pos rfl, if_pos (by rw [hnl]; omega), Option.bind_some, nums_bytes]
      have hnl2 : (nums (acc ++ t.data.toList)).length = acc.length + t.size := by rw [← hlen]; simp [nums]
      rw [hnl2, hlen]
      by_cases hb : 10000 < acc.length + t.size
      · rw [if_pos (by omega), if_pos hb]
      · rw [if_neg (by omega), if_neg hb]
        have ih := rchar_l0 l hl suf (pre ++ [c]) (acc ++ t.data.toList) (j + 10) (by rw [h]; simp) hk2 (by omega)
        rw [show (((pre ++ [c]).length : Nat) : Int) = (pre.length : Int) + 1 by simp] at ih
        rw [RA.w64_id _ (by omega) (by omega)]
        exact ih
    · rw [if_neg hv, if_neg hv]
      rfl
theorem rchar_f (l : List Int) (hl : l.length ≤ 4611686018427387904) (k : Nat) : trestleref17_Char.f (k + l.length + 11) l = some (charL [] l) :=
  rchar_l0 l hl l [] [] _ rfl (by omega) (Nat.zero_le _)
theorem infoInt64c : (Tryd.prog.info? 3).map (fun i => (i.zero, i.size, i.bytes)) = some (some (.int .i64 0), 1, 8) := by kernel_rfl
def trestlelaw17_UtflibChars.Pure : Prop := True

set_option maxHeartbeats 4000000 in
set_option maxRecDepth 100000 in
theorem chars_calls (A0 : Option Addr) (c0 : Nat) (l0 : List Int) (w : World) (hr0 : Kd.C (Kd.int .i64) w A0 l0.length l0) (hc0 : l0.length ≤ c0) (hn : l0.length * 8 ≤ 140737488351232) (HT_ : RowKit.Hid (Lib.Utf8Tabs 0 1 w)) :
    Calls Tryd.prog 6 #[.slice A0 l0.length c0] w fun e w' => e = .returned (.bool true) ∧ Below w.heap.size w w' := by
  obtain ⟨i0, hi, hz0, hz1, hz2⟩ := info_parts infoInt64c
  have HR := Lib.hid hr0
  have HN := Lib.hid (And.intro hc0 hn)
  clear hr0 hc0 hn
  go_enter Tryd.func6, Tryd.ntmps6
  have hnb : (l0.length : Int) + 1 ≤ 140737488351232 := by have := HN.out.2; omega
  have hnc : l0.length ≤ c0 := HN.out.1
  go_wp2_with (first
    | (at_make; refine wpList_make_own _ rfl _ _ 43 rfl w.heap.size 3 i0 (.int .i64 0) 1 Tryd.underlying43 hi hz0 hz1 .i64 .i64 _ (l0.length + 1) rfl rfl ?mC (by rw [hz2]; have := HN.out.2; omega) (by have := HN.out.2; unfold maxLen; omega) (Nat.le_refl _) ?_; (case mC => have := HN.out.2; first | (simp; done) | rfl | (unfold wrap64; omega)); intro w1 hown1 hgrow1)
    | ((with_reducible refine gate_builtin (b := .append) (xs := #[.tmp 11, .tmp 12]) rfl ?_); at_builtin; refine Kd.R_append_rows (Kd.int .i64) (Rr := (Kd.int .i64).K w1) (w0 := w) (W := w1) w.heap.size rfl (.tmp 11) (.tmp 12) 43 3 (.int .i64 0) 8 rfl Tryd.underlying43 infoInt64c rfl (by decide) (by decide) _ [] l0 A0 l0.length c0 (fun k => w.heap.size ≤ k) (fun _ => False) rfl rfl ?rO ?rR (fun _ _ h => h) (fun _ hk => hk.elim) ?rF ?rB ?rS ?rL ?_))
  case rO => exact Kd.R_of_own hown1 (fun k hk => (hown1.lt k hk).1)
  case rR => exact Kd.C_below HR.out ⟨hgrow1.os, hgrow1.tape, hgrow1.output, hgrow1.size, fun k hk => hgrow1.block k hk (by simp)⟩
  case rF => intro k hk; have := hgrow1.size; omega
  case rB => exact ⟨hgrow1.os, hgrow1.tape, hgrow1.output, hgrow1.size, fun k hk => hgrow1.block k hk (by simp)⟩
  case rS => exact hgrow1.size
  case rL => have := HN.out.2; simp; omega
  intro v2 w2 hR2 hb2 hg2 _
  obtain ⟨A2, n2, he2⟩ := Kd.R_slice hR2
  subst he2
  have hs2 := hb2.size
  have H2 := Lib.hid (And.intro hR2 hb2)
  clear hown1 hgrow1 hg2 hR2 hb2
  go_wp2_with (first
    | ((with_reducible refine gate_builtin (b := .append) (xs := #[.tmp 13, .tmp 14]) rfl ?_); at_builtin; refine Kd.R_append (Kd.int .i64) (w0 := w) (W := w2) w.heap.size rfl (.tmp 13) (.tmp 14) 43 3 (.int .i64 0) 8 rfl Tryd.underlying43 infoInt64c rfl (by decide) (by decide) _ l0 77 [.int .i64 77] (fun k => w.heap.size ≤ k) (fun _ => False) rfl (by first | (go_simp; done) | (go_simp; rfl)) ?aP (fun _ hk => hk.elim) ?aF ?aO ?aB ?aS ?aL ?_))
  case aP => exact rfl
  case aF => intro k hk; omega
  case aO => exact H2.out.1
  case aB => exact H2.out.2
  case aS => exact hs2
  case aL => have := HN.out.2; omega
  intro v3 w3 hR3 hb3 _ _
  obtain ⟨A3, n3, he3⟩ := Kd.R_slice hR3
  subst he3
  have hlen : (l0 ++ [77]).length = l0.length + 1 := by simp
  rw [hlen] at hR3 ⊢
  have hn3 := (Kd.R_reads' hR3).2.1
  have hs3 := hb3.size
  have H3 := Lib.hid (And.intro hR3 hb3)
  clear hR3 hb3 H2 hs2
  have g1 : decide ((l0.length : Int) ≤ (n3 : Int)) = true := decide_eq_true (by omega)
  have g2 : decide (0 ≤ (l0.length : Int)) = true := decide_eq_true (by omega)
  have hl62 : l0.length ≤ 4611686018427387904 := by omega
  obtain ⟨⟨t, er⟩, hte⟩ : ∃ p, charL [] l0 = p := ⟨_, rfl⟩
  have hf1 : utflib_Char.f l0 = some (t, er) := by unfold utflib_Char.f; rw [if_pos hl62, hte]
  have hf2 : trestleref17_Char.f (0 + l0.length + 11) l0 = some (t, er) := by rw [rchar_f l0 hl62, hte]
  have hf3 := UP.fixed_ok 0
  have hf4 := UP.same_ints_f l0 hl62 (l0.length + 1) (Nat.le_refl _)
  have hC3 : Kd.C (Kd.int .i64) w3 A3 l0.length l0 ∧ l0.length ≤ n3 := by
    have hR := Kd.R_take (m := l0.length) H3.out.1 (by rw [hlen]; omega)
    rw [List.take_left] at hR
    have := Kd.R_reads' hR
    exact ⟨this.2.2, this.2.1⟩
  have hC4 : Kd.C (Kd.int .i64) w3 A3 (l0 ++ [77]).length (l0 ++ [77]) := (Kd.R_reads' H3.out.1).2.2
  have F := Lib.hid (And.intro hf1 (And.intro hf2 (And.intro hf3 (And.intro hf4 (And.intro hC3 hC4)))))
  clear hf1 hf2 hf3 hf4 hC3 hC4 hte hlen hl62
  go_wp2_with fail
  refine (utflib_Char.calls A3 n3 l0 t er w3 F.out.2.2.2.2.1.1 F.out.2.2.2.2.1.2 F.out.1).mono ?_
  rintro e w4 ⟨rfl, hb4⟩
  have B4 := Lib.hid (H3.out.2.trans (hb4.mono H3.out.2.size))
  have D4 := Lib.hid hb4
  clear hb4
  go_wp2_with fail
  refine (trestleref17_Char.calls _ A0 c0 l0 t er w4 (Kd.C_below HR.out B4.out) HN.out.1 F.out.2.1).mono ?_
  rintro e w5 ⟨rfl, hb5⟩
  have B5 := Lib.hid (B4.out.trans (hb5.mono B4.out.size))
  have D5 := Lib.hid (D4.out.trans (hb5.mono D4.out.size))
  clear hb5
  go_wp2_with fail
  refine (trestlelaw17_fixed.calls _ true w5 F.out.2.2.1 (tab_step HT_ B5.out)).mono ?_
  rintro e w6 ⟨rfl, hb6⟩
  have B6 := Lib.hid (B5.out.trans (hb6.mono B5.out.size))
  have D6 := Lib.hid (D5.out.trans (hb6.mono D5.out.size))
  clear hb6
  go_wp2_with fail
  refine (trestleref04_SameInts.calls _ A3 n3 l0 A0 c0 l0 true w6 (Kd.C_below F.out.2.2.2.2.1.1 D6.out) F.out.2.2.2.2.1.2 (Kd.C_below HR.out B6.out) HN.out.1 F.out.2.2.2.1).mono ?_
  rintro e w7 ⟨rfl, hd7⟩
  have B7 := Lib.hid (B6.out.trans (hd7.below.mono B6.out.size))
  have D7 := Lib.hid (D6.out.trans (hd7.below.mono D6.out.size))
  clear hd7
  obtain ⟨ad, had, hx⟩ := Kd.at_int (Kd.C_below F.out.2.2.2.2.2 D7.out) (l0.length : Int) (by omega) (by simp; omega)
  subst had
  rw [Int.toNat_natCast, show rd (l0 ++ [77]) (l0.length : Int) = 77 by simp [rd]] at hx
  have g3 : decide ((l0.length : Int) < ((l0.length + 1 : Nat) : Int)) = true := decide_eq_true (by omega)
  have g4 : decide ((l0.length : Int) < (l0.length : Int) + 1) = true := decide_eq_true (by omega)
  go_wp2_with fail
  go_ret
  exact ⟨rfl, B7.out⟩

def IsRow (k : IntKind) (w : World) (a : Option Addr) (len cap : Nat) (zs : List Int) : Prop :=
  (a = none ∧ len = 0 ∧ cap = 0 ∧ zs = []) ∨
  ∃ x, a = some x ∧ len ≤ cap ∧ cap ≤ maxLen ∧ zs.length = cap ∧ (∀ i, i < zs.length → w.cell? (x.add i) = some (.int k (zs.getD i 0))) ∧ ∀ n ∈ zs, (Lit.int k n).wf = true
theorem laidOut : laidOutB Tryd.prog = true := by kernel_rfl
theorem trestlelaw17_UtflibChars.walk (P : trestlelaw17_UtflibChars.Pure) (a0 : Option Addr) (len0 cap0 : Nat) (z0 : List Int) (w : World) (w0 : IsRow .i64 w a0 len0 cap0 z0) (y0 : len0 * 8 ≤ 140737488351232) (HT_ : RowKit.Hid (Lib.Utf8Tabs 0 1 w)) :
    Calls Tryd.prog 6 #[.slice a0 len0 cap0] w fun e w' => e = .returned (.bool true) ∧ Below w.heap.size w w' := by
  obtain ⟨l0, rfl, hr0, hm0, hw0, hc0⟩ := ReadsInt.ofRowC w0
  exact chars_calls a0 cap0 l0 w (Kd.C_of_reads (d := (0 : Int)) (h1 := fun _ => rfl) hr0) hc0 y0 HT_
end Go.Proofs.YtlmmhlabacghnaaDoor.PR
