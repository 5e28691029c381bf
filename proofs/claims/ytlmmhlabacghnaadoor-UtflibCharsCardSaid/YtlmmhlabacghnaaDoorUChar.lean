/- utflib.Char: the text of code points: its walk. -/
import Derived.Test.YtlmmhlabacghnaaDoorEncode
import Derived.Test.YtlmmhlabacghnaaDoorPart
import Derived.Test.YtlmmhlabacghnaaDoorShelf
namespace Go.Proofs.YtlmmhlabacghnaaDoor.PR
open Go.RowKit Go.Proofs.YtlmmhlabacghnaaDoorW.PrintWords Go.Proofs.YtlmmhlabacghnaaDoorW.PrintLast Go.Proofs.YtlmmhlabacghnaaDoorW.PrintMore Go.Proofs.YtlmmhlabacghnaaDoor.RuneMath
set_option linter.unusedVariables false
set_option linter.unusedSimpArgs false

def charL : List UInt8 → List Int → ByteArray × Int
  | acc, [] => (⟨acc.toArray⟩, 0)
  | acc, c :: l => if Utf8.valid c = true then (if 10000 < (acc ++ (Utf8.encode c).data.toList).length then ((⟨#[]⟩ : ByteArray), 14) else charL (acc ++ (Utf8.encode c).data.toList) l) else ((⟨#[]⟩ : ByteArray), 3)
def utflib_Char.f (l : List Int) : Option (ByteArray × Int) := if l.length ≤ 4611686018427387904 then some (charL [] l) else none

theorem encode_small (c : Int) (hv : Utf8.valid c = true) : (Utf8.encode c).size ≤ 4 := by
  unfold Utf8.encode
  simp only [hv, if_true]
  split
  · exact (by decide : 1 ≤ 4)
  split
  · exact (by decide : 2 ≤ 4)
  split
  · exact (by decide : 3 ≤ 4)
  · exact (by decide : 4 ≤ 4)
theorem rd_drop (l : List Int) (n : Nat) (h : n < l.length) : l.drop n = rd l (n : Int) :: l.drop (n + 1) := by
  rw [List.drop_eq_getElem_cons h]
  congr 1
  simp [rd, h]

/-- What Char's loop holds. -/
structure CharAt (l0 : List Int) (w : World) (n : Nat) (acc : List UInt8) (wr : World) : Prop where
  bld : BuildAt (w.heap.size + 1) w.heap.size (Lib.byteCells acc) wr
  below : Below w.heap.size w wr
  size : w.heap.size + 1 ≤ wr.heap.size
  le : n ≤ l0.length
  small : acc.length ≤ 10000
  rest : charL acc (l0.drop n) = charL [] l0

set_option maxHeartbeats 2000000 in
set_option maxRecDepth 100000 in
theorem utflib_Char.calls (A0 : Option Addr) (c0 : Nat) (l0 : List Int) (r1 : ByteArray) (r2 : Int) (w : World) (hr0 : Kd.C (Kd.int .i64) w A0 l0.length l0) (hc0 : l0.length ≤ c0) (h : utflib_Char.f l0 = some (r1, r2)) :
    Calls Tryd.prog 30 #[.slice A0 l0.length c0] w fun e w' => e = .returned (.tuple #[.string r1, .int .i64 r2]) ∧ Below w.heap.size w w' := by
  unfold utflib_Char.f at h
  split at h
  case isFalse => cases h
  case isTrue hs =>
  have hr := Option.some.inj h
  clear h
  have HR := Lib.hid hr0
  have HC := Lib.hid (And.intro hc0 hr)
  clear hr0 hc0 hr
  go_enter Tryd.func30, Tryd.ntmps30
  go_wp2
  go_loopw [6, 7, 8, 11] (fun v6 v7 v8 v11 wr => ∃ (n : Nat) (acc : List UInt8), v11 = .int .i64 n ∧ CharAt l0 w n acc wr) (fun v6 v7 v8 v11 wr => l0.length - (match v11 with | .int _ k => k.toNat | _ => 0))
  case atStart =>
    refine ⟨0, [], rfl, ⟨⟨_, _, .inl rfl, heap_alloc_new _ _, World.ownsRow_nil _ _ _ _⟩, (Below.refl _ _).alloc (Nat.le_refl _) _, by simp, Nat.zero_le _, by simp, rfl⟩⟩
  case round =>
    obtain ⟨n, acc, rfl, H⟩ := hrel
    by_cases hn : n < l0.length
    · have dn : decide ((n : Int) < (l0.length : Int)) = true := decide_eq_true (by omega)
      have p208 : 0 ≤ (n : Int) := by omega
      have q208 : (n : Int) < (l0.length : Int) := by omega
      obtain ⟨ad, e208, hx208⟩ := Kd.at_int HR.out n p208 q208
      subst e208
      replace hx208 := (H.below.cell (World.block_lt_of_cell? w _ hx208)).trans hx208
      rw [Int.toNat_natCast] at hx208
      have hrest := H.rest
      rw [rd_drop l0 n hn] at hrest
      simp only [charL] at hrest
      have he := runes_Encode.calls (rd l0 (n : Int))
      replace p208 := eq_true p208
      replace q208 := eq_true q208
      by_cases hv : Utf8.valid (rd l0 (n : Int)) = true
      · rw [if_pos hv] at hrest
        have hef : runes_Encode.f (rd l0 (n : Int)) = some (Utf8.encode (rd l0 (n : Int)), 0) := by unfold runes_Encode.f; rw [if_pos hv]
        have hes := encode_small _ hv
        obtain ⟨t, ht⟩ : ∃ t, Utf8.encode (rd l0 (n : Int)) = t := ⟨_, rfl⟩
        rw [ht] at hrest hef hes
        have P := Lib.hid (And.intro H (And.intro hrest (And.intro hes hn)))
        clear H hrest hes hn he hv ht
        go_wp2_with fail
        refine (runes_Encode.calls _ t 0 wr hef).mono ?_
        rintro e w1 ⟨rfl, hb1⟩
        go_wp2_with fail
        obtain ⟨H, hrest, hes, hn⟩ := P.out
        have hsz0 := H.size
        have hsz1 := hb1.size
        have hsm := H.small
        have k1 : BuildAt (w.heap.size + 1) w.heap.size (Lib.byteCells acc) w1 := build_move H.bld (hb1.block _ (by omega)) fun k hk hk2 => hb1.block k hk2
        have hbl1 := H.below.trans (hb1.mono H.below.size)
        refine (write_string (w.heap.size + 1) w.heap.size _ t w1 k1 (by rw [byteCells_len]; omega) (by omega)).mono ?_
        rintro e w2 ⟨rfl, hb2, hfr2⟩
        rw [strCells_eq, ← byteCells_append] at hb2
        have hlen2 : (Lib.byteCells (acc ++ t.data.toList)).length = acc.length + t.size := by
          rw [byteCells_len, List.length_append, Array.length_toList]
          rfl
        have hbl2 : Below w.heap.size w w2 := hbl1.trans (hfr2.below (by omega) (by omega))
        have hib := build_is hb2 w.heap.size (by omega) (Nat.le_refl _)
        have hs2 := hfr2.size
        have P2 := Lib.hid (And.intro hb2 (And.intro hbl2 (And.intro hlen2 (And.intro hs2 (And.intro hsz0 (And.intro hsz1 hib))))))
        clear hb2 hfr2 hbl2 hib hlen2 hs2 k1 hbl1 hsz0 hsz1 hb1 H hrest hes hn hsm hx208
        go_wp2_with fail
        refine (Tryd.Builder_Len w.heap.size w.heap.size _ w2 P2.out.2.2.2.2.2.2).mono ?_
        rintro e w3 ⟨rfl, rfl⟩
        rw [P2.out.2.2.1]
        obtain ⟨hb2, hbl2, hlen2, hs2, hsz0, hsz1, hib⟩ := P2.out
        obtain ⟨H, hrest, hes, hn⟩ := P.out
        have hle2 : (acc ++ t.data.toList).length = acc.length + t.size := by rw [← byteCells_len]; exact hlen2
        rw [hle2] at hrest
        by_cases hbig : 10000 < acc.length + t.size
        · rw [if_pos hbig] at hrest
          have db : decide (10000 < ((acc.length + t.size : Nat) : Int)) = true := decide_eq_true (by omega)
          have db2 : decide (10000 < (acc.length : Int) + (t.size : Int)) = true := decide_eq_true (by omega)
          have db3 : decide (10000 < acc.length + t.size) = true := decide_eq_true hbig
          have Q := Lib.hid (And.intro hrest hbl2)
          clear hrest hbl2 hb2 hlen2 hib H hle2 hbig
          go_wp2_with fail
          go_ret2
          have hr := HC.out.2
          rw [← Q.out.1] at hr
          cases hr
          exact ⟨rfl, Q.out.2⟩
        · rw [if_neg hbig] at hrest
          have db : decide (10000 < ((acc.length + t.size : Nat) : Int)) = false := decide_eq_false (by omega)
          have db2 : decide (10000 < (acc.length : Int) + (t.size : Int)) = false := decide_eq_false (by omega)
          have db3 : decide (10000 < acc.length + t.size) = false := decide_eq_false hbig
          have hnw : (n : Int) + 1 ≤ 4611686018427387904 := by omega
          have Q := Lib.hid (And.intro hrest (And.intro hbl2 (And.intro hb2 (And.intro hle2 (And.intro hn (And.intro hs2 hsz1))))))
          have Q3 := Lib.hid (And.intro hbig (And.intro hsz0 hsz1))
          clear hrest hbl2 hb2 hlen2 hib H hle2 hbig hn hs2 hsz1 hsz0
          go_wp2_with fail
          obtain ⟨hrest, hbl2, hb2, hle2, hn, hs2, hsz1⟩ := Q.out
          obtain ⟨hbig, hsz0, _⟩ := Q3.out
          go_roundw
          case rel =>
            exact ⟨n + 1, acc ++ t.data.toList, by simp, ⟨hb2, hbl2, by omega, hn, by omega, hrest⟩⟩
          case measure =>
            simp only
            omega
      · rw [if_neg hv] at hrest
        have hef : runes_Encode.f (rd l0 (n : Int)) = some ((⟨#[]⟩ : ByteArray), 3) := by unfold runes_Encode.f; rw [if_neg hv]
        go_wp2_with fail
        refine (runes_Encode.calls _ _ _ wr hef).mono ?_
        rintro e w1 ⟨rfl, hb1⟩
        go_wp2_with fail
        go_ret2
        have hr := HC.out.2
        rw [← hrest] at hr
        cases hr
        exact ⟨rfl, H.below.trans (hb1.mono H.below.size)⟩
    · have dn : decide ((n : Int) < (l0.length : Int)) = false := decide_eq_false (by omega)
      have hend : l0.drop n = [] := List.drop_eq_nil_of_le (by omega)
      have hrest := H.rest
      rw [hend] at hrest
      simp only [charL] at hrest
      have hib := build_is H.bld w.heap.size (by omega) (Nat.le_refl _)
      go_wp2_with fail
      refine (Tryd.Builder_String_any w.heap.size w.heap.size _ wr hib H.below.size).mono ?_
      rintro e w4 ⟨rfl, hbel4⟩
      go_wp2_with fail
      go_ret2
      have hr := HC.out.2
      rw [← hrest] at hr
      cases hr
      exact ⟨rfl, H.below.trans hbel4⟩
end Go.Proofs.YtlmmhlabacghnaaDoor.PR
