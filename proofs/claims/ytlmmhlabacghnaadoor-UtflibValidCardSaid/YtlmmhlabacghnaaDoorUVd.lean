/- UtflibValid: the plain law: in a valid text counting, telling, finding are one. -/
import Derived.Test.YtlmmhlabacghnaaDoorUV
import Derived.Test.YtlmmhlabacghnaaDoorRC0
import Derived.Test.YtlmmhlabacghnaaDoorPRx27
namespace Go.Proofs.YtlmmhlabacghnaaDoor.UP
open Go.RowKit Go.Proofs.YtlmmhlabacghnaaDoor.PR Go.Proofs.YtlmmhlabacghnaaDoor.RuneMath Go.Proofs.YtlmmhlabacghnaaDoor.RA Go.Proofs.YtlmmhlabacghnaaDoor.RX Go.Proofs.YtlmmhlabacghnaaDoor.RJ Go.Proofs.YtlmmhlabacghnaaDoorW.PrintWords Go.Proofs.YtlmmhlabacghnaaDoorW.PrintLast Go.Proofs.YtlmmhlabacghnaaDoorW.PrintMore
set_option linter.unusedVariables false
set_option linter.unusedSimpArgs false

/-! ### A whole rune's code point has the rune's bytes -/
theorem encRune (c : Nat) (hv : Utf8.valid (c : Int) = true) : (Utf8.encode (c : Int)).data.toList = Lib.encodeRune (c : Int) := by
  rw [RC.encode_eq c hv]
  have hg := (RC.valid_iff _).1 hv
  unfold RC.encN Lib.encodeRune
  have e : ∀ (x : Int) (n : Nat), x.toNat = n → x.toNat.toUInt8 = UInt8.ofNat n := fun x n h => by subst h; rfl
  by_cases h1 : c < 128
  · rw [if_pos h1, Lib.encodeRuneZ_one (by omega) (by omega)]
    simp [e (c : Int) c (by omega)]
  · rw [if_neg h1]
    by_cases h2 : c < 2048
    · rw [if_pos h2, Lib.encodeRuneZ_two (by omega) (by omega)]
      simp only [List.map_cons, List.map_nil]
      rw [e _ (192 + c / 64) (by omega), e _ (128 + c % 64) (by omega)]
    · rw [if_neg h2]
      by_cases h3 : c < 65536
      · rw [if_pos h3, Lib.encodeRuneZ_three (by omega)]
        simp only [List.map_cons, List.map_nil]
        rw [e _ (224 + c / 4096) (by omega), e _ (128 + c / 64 % 64) (by omega), e _ (128 + c % 64) (by omega)]
      · rw [if_neg h3, Lib.encodeRuneZ_four (by omega) (by omega)]
        simp only [List.map_cons, List.map_nil]
        rw [e _ (240 + c / 262144) (by omega), e _ (128 + c / 4096 % 64) (by omega), e _ (128 + c / 64 % 64) (by omega), e _ (128 + c % 64) (by omega)]
theorem ok_valid (s : ByteArray) (p : Nat) (hp : p < s.size) (hv : inv (p, (Utf8.decode s p).2, (Utf8.decode s p).1) = false) : Utf8.valid ((Utf8.decode s p).1 : Int) = true := by
  rw [RC.valid_iff]
  rw [Lib.decode_at] at hv ⊢
  have k0 := (s.get! p).toNat_lt
  have k1 := (s.get! (p + 1)).toNat_lt
  have k2 := (s.get! (p + 2)).toNat_lt
  rcases Lib.decodeN_shape (s.size - p) (s.get! p).toNat (s.get! (p + 1)).toNat (s.get! (p + 2)).toNat (s.get! (p + 3)).toNat with ⟨c, e⟩ | ⟨c1, c2, c3, cv, e⟩ | ⟨c1, c2, c3, c4, cv, cs, e⟩ | ⟨c1, c2, c3, c4, c5, cv, cw, e⟩ | e
  all_goals (rw [e] at hv ⊢; dsimp only at hv ⊢)
  all_goals (try (exact absurd hv (by decide)))
  all_goals (unfold goodV; omega)
theorem ok_encode (s : ByteArray) (p : Nat) (hp : p < s.size) (hv : inv (p, (Utf8.decode s p).2, (Utf8.decode s p).1) = false) :
    (Utf8.encode ((Utf8.decode s p).1 : Int)).data.toList = (s.data.toList.drop p).take (Utf8.decode s p).2 := by
  have hd : Lib.decodeL (s.data.toList.drop p) = Utf8.decode s p := by
    unfold Lib.decodeL
    have ht := Lib.tail_decode s p 0
    rw [Nat.add_zero] at ht
    have e : (⟨(s.data.toList.drop p).toArray⟩ : ByteArray) = s.extract p s.size := by
      have hsz : s.size = s.data.toList.length := by rw [Array.length_toList]; rfl
      have : (s.extract p s.size).data.toList = s.data.toList.drop p := by
        rw [ByteArray.data_extract, Array.toList_extract, List.extract_eq_take_drop, hsz]
        rw [List.take_of_length_le (by simp)]
      rw [← this]
    rw [e, ht]
  have hne : s.data.toList.drop p ≠ [] := by
    intro h
    have := List.drop_eq_nil_iff.1 h
    rw [Array.length_toList] at this
    exact absurd hp (by show ¬ p < s.data.size; omega)
  have hnv : ¬ ((Lib.decodeL (s.data.toList.drop p)).1 = 65533 ∧ (Lib.decodeL (s.data.toList.drop p)).2 = 1) := by
    rw [hd]
    rintro ⟨h1, h2⟩
    have : inv (p, (Utf8.decode s p).2, (Utf8.decode s p).1) = true := by
      show (((Utf8.decode s p).1 == 65533) && ((Utf8.decode s p).2 == 1)) = true
      rw [h1, h2]
      rfl
    rw [hv] at this
    cases this
  have := Lib.encode_decode _ hne hnv
  rw [hd] at this
  rw [encRune _ (ok_valid s p hp hv), this]
theorem char_ok (s : ByteArray) (hs : s.size ≤ 10000) : ∀ (l : List R3) (p : Nat), from_ s p = l → Ok s p → p ≤ s.size → charL (s.data.toList.take p) (cps l) = (s, 0)
  | [], p, hl, _, hp => by
    have := from_bytes s [] p hp hl
    simp only [bytes3, List.map_nil, List.sum_nil] at this
    simp only [cps, List.map_nil, charL]
    rw [List.take_of_length_le (by rw [Array.length_toList]; show s.data.size ≤ p; have : s.data.size = s.size := rfl; omega)]
  | r :: l, p, hl, hok, hp => by
    have hlt : p < s.size := by
      by_cases h : p < s.size
      · exact h
      · rw [from_ge s p h] at hl; cases hl
    have hl' := hl
    rw [from_lt s p hlt] at hl'
    simp only [List.cons.injEq] at hl'
    obtain ⟨h0, h1⟩ := hl'
    have hw := width_fits s p hlt
    obtain ⟨hi, hok2⟩ := ok_lt hok hlt
    have hlen : s.data.toList.length = s.size := by rw [Array.length_toList]; rfl
    have e : s.data.toList.take p ++ (Utf8.encode ((Utf8.decode s p).1 : Int)).data.toList = s.data.toList.take (p + (Utf8.decode s p).2) := by
      rw [ok_encode s p hlt hi, List.take_add]
    rw [← h0]
    show charL _ ((((Utf8.decode s p).1 : Nat) : Int) :: cps l) = _
    simp only [charL]
    rw [if_pos (ok_valid s p hlt hi), e, if_neg (by rw [List.length_take, hlen]; omega)]
    exact char_ok s hs l _ h1 hok2 hw

/-! ### The law -/
theorem vd_len (s : ByteArray) (hs : s.size ≤ 300) (i j : Int) : utflib_Len.f s i j = some (lenV s (meansV i s.size) (meansV j s.size)) := if_pos (by omega)
theorem vd_codes (s : ByteArray) (hs : s.size ≤ 300) (hok : Ok s 0) : utflib_Codes.f s 1 (s.size : Int) = some (codesL [] (rs s)) := by
  unfold utflib_Codes.f
  rw [if_pos (by omega), show meansV 1 s.size = 1 from rfl, show meansV (s.size : Int) s.size = (s.size : Int) by unfold meansV; rw [if_pos (by omega)]]
  unfold codesV
  rw [if_neg (by omega), show ((1 : Int) - 1).toNat = 0 from rfl, span_all]
  rfl
theorem vd_j7 (s : ByteArray) (hs : s.size ≤ 300) (hok : Ok s 0) (k : Nat) : trestlelaw17_UtflibValid.j7 (k + 1) s ((rs s).map toS) = some true := by
  simp only [trestlelaw17_UtflibValid.j7, List.length_map]
  by_cases h : (rs s).length > 200
  · rw [if_pos (by omega), vd_codes s hs hok, Option.bind_some]
    have e : codesL [] (rs s) = ([], 14) := by
      have hd : rs s = (rs s).take 200 ++ ((rs s)[200] :: (rs s).drop 201) := by rw [List.getElem_cons_drop]; exact (List.take_append_drop 200 _).symm
      have hgood : ∀ r ∈ (rs s).take 200, inv r = false := fun r hr => hok r (List.mem_of_mem_take hr)
      rw [hd, codes_run ((rs s).take 200) _ [] hgood (by simp; omega)]
      simp only [codesL, List.nil_append]
      rw [if_neg (by rw [hok _ (show (rs s)[200] ∈ rs s from List.getElem_mem _)]; decide), if_pos (by simp [cps]; omega)]
    rw [e]
    rfl
  · rw [if_neg (by omega), vd_codes s hs hok, Option.bind_some]
    have e : codesL [] (rs s) = (cps (rs s), 0) := by
      have := codes_run (rs s) [] [] hok (by simp; omega)
      rw [List.append_nil] at this
      rw [this]
      simp [codesL]
    have e2 : utflib_Char.f (cps (rs s)) = some (s, 0) := by
      unfold utflib_Char.f
      rw [if_pos (by simp [cps]; omega)]
      have := char_ok s (by omega) (rs s) 0 rfl hok (Nat.zero_le _)
      rw [List.take_zero] at this
      rw [this]
    rw [e]
    dsimp only
    rw [e2, Option.bind_some, if_pos rfl, if_pos rfl]
    simp
theorem vd_off (s : ByteArray) (hs : s.size ≤ 300) (hok : Ok s 0) (n k : Nat) (hn : n ≤ 301) (hk : 4 * s.size + 20 ≤ k) :
    utflib_Offset.f k s ((n : Int) + 1) 1 = some (if n ≤ (rs s).length then (((bytes3 ((rs s).take n) + 1 : Nat) : Int), true, 0) else (0, false, 0)) := by
  rw [offset_prog s (by omega) _ 1 (by omega) (by omega) k hk, show meansV 1 s.size = 1 from rfl]
  unfold offA
  rw [if_neg (by omega), if_neg (by omega), show (1 : Int).toNat = 0 + 1 by rfl, ok_begin (by omega) hok, if_neg (by decide), if_neg (by omega), show (n : Int) + 1 - 1 = (n : Int) by omega,
    pos_ok s (by omega) (rs s) 0 n (s.size + 1) rfl hok (Nat.zero_le _) (by omega), Nat.zero_add]
theorem vd_step (s : ByteArray) (hs : s.size ≤ 300) (hok : Ok s 0) (pre suf : List R3) (hr : rs s = pre ++ suf) :
    stepA s (bytes3 pre) = match suf with | [] => (0, 0, false, 0) | r :: _ => ((r.1 : Int) + 1, (r.2.2 : Int), true, 0) := by
  have hsp := from_split s pre suf 0 hr
  rw [Nat.zero_add] at hsp
  have hokp := ok_split hok hr
  rw [Nat.zero_add] at hokp
  unfold stepA
  by_cases h : s.size ≤ bytes3 pre
  · rw [from_ge s _ (by omega)] at hsp
    subst hsp
    rw [if_pos h]
  · rw [from_lt s _ (by omega)] at hsp
    subst hsp
    rw [if_neg h, if_neg (by rw [(ok_lt hokp (by omega)).1]; decide)]
theorem rd_s (pre rest : List R3) (r : R3) : rd_T28 ((pre ++ r :: rest).map toS) (pre.length : Int) = toS r := by
  simp [rd_T28]
/-- Where Step is asked from. -/
def atB (pre : List R3) : Int := if pre = [] then 0 else (bytes3 pre.dropLast : Int) + 1
theorem step_at (s : ByteArray) (hs : s.size ≤ 300) (pre suf : List R3) (hr : rs s = pre ++ suf) : stepV s (atB pre) = stepA s (bytes3 pre) := by
  unfold atB
  by_cases h : pre = []
  · subst h
    rw [if_pos rfl]
    unfold stepV
    rw [if_neg (by omega), if_neg (by omega)]
    rfl
  · rw [if_neg h]
    have hd : pre = pre.dropLast ++ [pre.getLast h] := (List.dropLast_concat_getLast h).symm
    generalize pre.dropLast = q at hd ⊢
    generalize pre.getLast h = r at hd
    subst hd
    obtain ⟨n1, n2, n3⟩ := scan_next s _ _ q suf r (by rw [show scan s (s.size - 0) 0 = rs s from rfl, hr]; simp)
    rw [Nat.zero_add] at n1
    have hsp := from_split s q (r :: suf) 0 (show rs s = _ by rw [hr]; simp)
    rw [Nat.zero_add, from_lt s _ (by omega)] at hsp
    simp only [List.cons.injEq] at hsp
    have e : bytes3 (q ++ [r]) = bytes3 q + (Utf8.decode s (bytes3 q)).2 := by rw [bytes3_snoc, ← hsp.1]
    unfold stepV
    rw [if_neg (by omega), if_pos (by omega), show ((bytes3 q : Int) + 1).toNat - 1 = bytes3 q by omega, e]
theorem vd_l0 (s : ByteArray) (hs : s.size ≤ 300) (hok : Ok s 0) : ∀ (suf pre : List R3) (k : Nat), rs s = pre ++ suf → 3 * suf.length + 4 * s.size + 30 ≤ k →
    trestlelaw17_UtflibValid.l0 k s ((rs s).map toS) (atB pre) (pre.length : Int) = some true
  | suf, pre, 0, _, hk => by omega
  | suf, pre, k + 1, hr, hk => by
    have hlen : (rs s).length = pre.length + suf.length := by rw [hr]; simp
    have hl := rs_length s
    obtain ⟨k, rfl⟩ : ∃ k', k = k' + 2 := ⟨k - 2, by omega⟩
    simp only [trestlelaw17_UtflibValid.l0, List.length_map]
    rw [if_pos (by omega), w64_id ((pre.length : Int) + 1) (by omega) (by omega), vd_off s hs hok pre.length _ (by omega) (by omega), Option.bind_some, if_pos (by omega), step_prog s (by omega), Option.bind_some, step_at s hs pre suf hr, vd_step s hs hok pre suf hr]
    have htk : (rs s).take pre.length = pre := by rw [hr]; simp
    rw [htk]
    cases suf with
    | nil =>
      dsimp only
      rw [if_pos rfl, if_pos rfl, if_pos rfl]
      simp only [List.length_nil, Nat.add_zero] at hlen
      simp only [trestlelaw17_UtflibValid.j5, List.length_map]
      rw [decide_eq_false (by omega), if_neg (by decide), if_pos (by omega), show (pre.length : Int) + 2 = ((pre.length + 1 : Nat) : Int) + 1 by omega, w64_id (((pre.length + 1 : Nat) : Int) + 1) (by omega) (by omega), vd_off s hs hok (pre.length + 1) _ (by omega) (by omega), Option.bind_some, if_neg (show ¬ pre.length + 1 ≤ (rs s).length by omega)]
      have hb := from_bytes s (rs s) 0 (Nat.zero_le _) rfl
      rw [hr, List.append_nil, Nat.zero_add] at hb
      rw [w64_id ((s.size : Int) + 1) (by omega) (by omega), if_pos (by omega)]
      dsimp only
      rw [if_neg (by decide)]
      obtain ⟨k, rfl⟩ : ∃ k', k = k' + 1 := ⟨k - 1, by omega⟩
      simp only [trestlelaw17_UtflibValid.j6]
      rw [if_neg (by decide)]
      exact vd_j7 s hs hok _
    | cons r suf =>
      obtain ⟨n1, n2, n3⟩ := scan_next s _ _ pre suf r hr
      rw [Nat.zero_add] at n1
      simp only [List.length_cons] at hlen hk
      dsimp only
      rw [if_pos rfl, if_pos rfl, if_pos rfl]
      simp only [trestlelaw17_UtflibValid.j5, List.length_map]
      have hrd : rd_T28 ((rs s).map toS) (pre.length : Int) = toS r := by rw [hr]; exact rd_s pre suf r
      rw [decide_eq_true (by omega), if_neg (by decide), if_neg (by omega), if_pos (by omega), if_pos (by omega), hrd]
      show (if ((bytes3 pre + 1 : Nat) : Int) = wrap64 ((r.1 : Int) + 1) then (if (r.1 : Int) + 1 = ((bytes3 pre + 1 : Nat) : Int) then (if (r.2.2 : Int) = (r.2.2 : Int) then trestlelaw17_UtflibValid.l0 (k + 1) s ((rs s).map toS) ((r.1 : Int) + 1) (wrap64 ((pre.length : Int) + 1)) else some false) else some false) else some false) = some true
      rw [w64_id ((r.1 : Int) + 1) (by omega) (by omega), if_pos (by omega), if_pos (by omega), if_pos rfl, w64_id _ (by omega) (by omega)]
      have ih := vd_l0 s hs hok suf (pre ++ [r]) (k + 1) (by rw [hr]; simp) (by omega)
      have hat : atB (pre ++ [r]) = (r.1 : Int) + 1 := by
        unfold atB
        rw [if_neg (by simp), List.dropLast_concat, n1]
      rw [hat, show (((pre ++ [r]).length : Nat) : Int) = (pre.length : Int) + 1 by simp] at ih
      exact ih
theorem vd_j1 (s : ByteArray) (hs : s.size ≤ 300) (hok : Ok s 0) (k : Nat) (hk : 7 * s.size + 40 ≤ k) : trestlelaw17_UtflibValid.j1 (k + 1) s = some true := by
  have hl := rs_length s
  obtain ⟨k, rfl⟩ : ∃ k', k = k' + 2 := ⟨k - 2, by omega⟩
  have hj2 : trestlelaw17_UtflibValid.j2 (k + 2) s ((rs s).length : Int) 0 0 = some true := by
    simp only [trestlelaw17_UtflibValid.j2]
    have e1 : runes_List.f s = some ((rs s).map toS) := if_pos (by omega)
    have e2 : runes_Count.f s = some ((rs s).length : Int) := if_pos (by omega)
    rw [e1, Option.bind_some, if_pos trivial, if_pos trivial, e2, Option.bind_some, if_pos rfl]
    simp only [trestlelaw17_UtflibValid.j3, List.length_map]
    rw [if_neg (by simp)]
    exact vd_l0 s hs hok (rs s) [] k rfl (by omega)
  simp only [trestlelaw17_UtflibValid.j1]
  rw [vd_len s hs, Option.bind_some]
  by_cases h : (s.size : Int) = 0
  · rw [if_pos h, vd_len s hs, Option.bind_some]
    have hz : rs s = [] := from_ge s 0 (by omega)
    have e : lenV s (meansV 1 s.size) (meansV 0 s.size) = (((rs s).length : Int), 0, 0) := by
      rw [hz]
      show lenV s 1 0 = _
      unfold lenV
      rw [if_neg (by omega), show ((1 : Int) - 1).toNat = 0 from rfl, spanL_late s 0 0 (by omega)]
      rfl
    rw [e]
    exact hj2
  · rw [if_neg h]
    have e : lenV s (meansV 1 s.size) (meansV (-1) s.size) = (((rs s).length : Int), 0, 0) := by
      rw [show meansV 1 s.size = 1 from rfl, show meansV (-1) s.size = (s.size : Int) by unfold meansV; rw [if_neg (by omega), if_pos (by omega)]; omega]
      unfold lenV
      rw [if_neg (by omega), show ((1 : Int) - 1).toNat = 0 from rfl, span_all]
      exact lenL_ok _ hok
    rw [e]
    exact hj2
theorem vd_j0 (s : ByteArray) (hs : s.size ≤ 300) (k : Nat) (hk : 7 * s.size + 40 ≤ k) : trestlelaw17_UtflibValid.j0 (k + 2) s = some true := by
  simp only [trestlelaw17_UtflibValid.j0]
  rw [ref_bad s (by omega) (k + 1) (by omega), Option.bind_some]
  rcases trim s with ⟨h1, h2⟩ | ⟨b, h1, h2, h3⟩
  · rw [h1, if_neg (by decide)]
    exact vd_j1 s hs h2 k hk
  · rw [h1, if_pos (by omega), if_pos (by omega), if_pos (by omega), Int.toNat_natCast]
    have hsz : (s.extract 0 b).size = b := by simp; omega
    exact vd_j1 _ (by omega) h3 k (by omega)
theorem utflibValid : trestlelaw17_UtflibValid.Pure := by
  intro s hs
  refine ⟨3000 + 20, ?_⟩
  unfold trestlelaw17_UtflibValid.f
  rw [fixed_ok, Option.bind_some, if_pos rfl]
  by_cases h : (s.size : Int) > 300
  · rw [if_pos h, if_pos (by decide), if_pos (by omega)]
    have hsz : (s.extract 0 300).size = 300 := by simp; omega
    exact vd_j0 _ (by omega) 3018 (by omega)
  · rw [if_neg h]
    exact vd_j0 s (by omega) 3018 (by omega)
end Go.Proofs.YtlmmhlabacghnaaDoor.UP
