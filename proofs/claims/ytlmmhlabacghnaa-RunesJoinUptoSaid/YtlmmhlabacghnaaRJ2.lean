/- RunesJoin: the plain law. -/
import Derived.Test.YtlmmhlabacghnaaRJ
namespace Go.Proofs.Ytlmmhlabacghnaa.RJ
open Go.RowKit Go.Proofs.Ytlmmhlabacghnaa.PR Go.Proofs.Ytlmmhlabacghnaa.RuneMath Go.Proofs.Ytlmmhlabacghnaa.RA Go.Proofs.Ytlmmhlabacghnaa.RX Go.Proofs.YtlmmhlabacghnaaW.PrintWords Go.Proofs.YtlmmhlabacghnaaW.PrintLast
set_option linter.unusedVariables false
set_option linter.unusedSimpArgs false

theorem partN_all (u : ByteArray) (i j : Int) : ∀ (f p n : Nat), u.size - p ≤ f → i ≤ n → ((n + (scan u f p).length : Nat) : Int) ≤ j → partN u i j n (scan u f p) = u.data.toList.drop p
  | 0, p, n, hf, _, _ => by
    rw [List.drop_eq_nil_of_le (by have : u.data.toList.length = u.size := by rw [Array.length_toList]; rfl
                                   omega)]
    rfl
  | f + 1, p, n, hf, hi, hj => by
    have hl : u.data.toList.length = u.size := by rw [Array.length_toList]; rfl
    simp only [scan] at hj ⊢
    by_cases hp : p < u.size
    · have hw := width_pos u p hp
      rw [if_pos hp] at hj ⊢
      simp only [List.length_cons] at hj
      simp only [partN]
      rw [if_pos ⟨hi, by omega⟩, partN_all u i j f (p + (Utf8.decode u p).2) (n + 1) (by omega) (by omega) (by omega)]
      have e : (own3 u (p, (Utf8.decode u p).2, (Utf8.decode u p).1)).data.toList = (u.data.toList.drop p).take (Utf8.decode u p).2 := by
        unfold own3
        simp [ByteArray.data_extract, List.extract_eq_take_drop]
      rw [e, ← List.drop_drop, List.take_append_drop]
    · rw [if_neg hp, List.drop_eq_nil_of_le (by omega)]
      rfl
theorem partN_early (s : ByteArray) (i j : Int) : ∀ (l : List R3) (n : Nat), ((n + l.length : Nat) : Int) ≤ i → partN s i j n l = []
  | [], _, _ => rfl
  | x :: l, n, h => by
    simp only [List.length_cons] at h
    simp only [partN]
    rw [if_neg (by omega), partN_early s i j l (n + 1) (by omega)]
    rfl

theorem part_end (x t : ByteArray) (pre : List R3) (h : rs (x ++ t) = pre ++ from_ (x ++ t) x.size) : partN (x ++ t) (pre.length : Int) ((rs (x ++ t)).length : Int) 0 (rs (x ++ t)) = t.data.toList := by
  have hlen : ((rs (x ++ t)).length : Int) = ((0 + pre.length + (from_ (x ++ t) x.size).length : Nat) : Int) := by rw [h]; simp
  rw [hlen, h, partN_append, partN_early _ _ _ _ _ (by omega), List.nil_append]
  unfold from_
  rw [partN_all _ _ _ _ _ _ (by omega) (by omega) (by omega)]
  simp [ByteArray.data_append]

theorem rd_left (l m : List R3) (i : Nat) (h : i < l.length) : rd_T44 ((l ++ m).map toS) i = rd_T44 (l.map toS) i := by
  simp [rd_T44, List.getD, List.getElem?_append_left, h]
theorem rd_right (l m : List R3) (i P : Nat) (h : l.length ≤ i) (h2 : i < l.length + m.length) : rd_T44 ((l ++ m.map (shift P)).map toS) i = ⟨(rd_T44 (m.map toS) ((i : Int) - l.length)).f0 + P, (rd_T44 (m.map toS) ((i : Int) - l.length)).f1, (rd_T44 (m.map toS) ((i : Int) - l.length)).f2⟩ := by
  have e : ((i : Int) - l.length).toNat = i - l.length := by omega
  obtain ⟨r, hr⟩ : ∃ r, m[i - l.length]? = some r := ⟨m[i - l.length]'(by omega), by rw [List.getElem?_eq_getElem (by omega)]⟩
  simp only [rd_T44, e, List.getD, List.getElem?_map, List.getElem?_append_right h, hr, Option.map_some, Option.getD_some, Int.toNat_natCast]
  unfold toS shift
  simp only
  congr 1
  omega

theorem rd_right_small (m : List R3) (j : Int) (B : Nat) (hB : ∀ r ∈ m, r.1 ≤ B) (h0 : 0 ≤ j) (h1 : j < m.length) : 0 ≤ (rd_T44 (m.map toS) j).f0 ∧ (rd_T44 (m.map toS) j).f0 ≤ B := by
  obtain ⟨r, hr⟩ : ∃ r, m[j.toNat]? = some r := ⟨m[j.toNat]'(by omega), by rw [List.getElem?_eq_getElem (by omega)]⟩
  have hm := List.mem_of_getElem? hr
  have := hB r hm
  simp only [rd_T44, List.getD, List.getElem?_map, hr, Option.map_some, Option.getD_some]
  unfold toS
  simp only
  omega

theorem loop (x : ByteArray) (l m : List R3) (hx : x.size ≤ 1048576) (hm : ∀ r ∈ m, r.1 ≤ 1048576) (hl : l.length ≤ 1048576) (hml : m.length ≤ 1048576) : ∀ (d i k : Nat), i + d = l.length + m.length → d + 1 ≤ k →
    trestlelaw01_RunesJoin.l0 k x (l.map toS) (m.map toS) ((l ++ m.map (shift x.size)).map toS) i = some true
  | 0, i, k, hi, hk => by
    obtain ⟨k, rfl⟩ : ∃ j, k = j + 1 := ⟨k - 1, by omega⟩
    simp only [trestlelaw01_RunesJoin.l0]
    rw [if_neg (by simp; omega)]
  | d + 1, i, k, hi, hk => by
    obtain ⟨k, rfl⟩ : ∃ j, k = j + 1 := ⟨k - 1, by omega⟩
    have ih := loop x l m hx hm hl hml d (i + 1) k (by omega) (by omega)
    rw [show ((i + 1 : Nat) : Int) = (i : Int) + 1 by omega] at ih
    simp only [trestlelaw01_RunesJoin.l0]
    rw [if_pos (by simp; omega), RA.w64_id ((i : Int) + 1) (by omega) (by omega), ih]
    by_cases h : i < l.length
    · rw [if_pos (by simp; omega), if_pos (by omega), rd_left l _ i h, if_neg (by simp)]
    · have hlen : ((l.map toS).length : Int) = l.length := by simp
      rw [if_neg (by simp; omega), hlen, RA.w64_id ((i : Int) - l.length) (by omega) (by omega), if_pos (by omega), if_pos (by simp; omega), if_pos (by omega), rd_right l m i x.size (by omega) (by omega)]
      have hs := rd_right_small m ((i : Int) - l.length) 1048576 hm (by omega) (by omega)
      rw [RA.w64_id _ (by omega) (by omega), if_neg (by simp)]

theorem tail_true (s t : ByteArray) (pre suf : List R3) (k : Nat) (hs : s.size ≤ 1048576) (ht : t.size ≤ 1048576) (h : rs s = pre ++ suf) (hv : ∀ r ∈ pre, inv r = false) (hP : bytes3 pre ≤ s.size) (hk : s.size + t.size + 10 ≤ k) :
    trestlelaw01_RunesJoin.j0 k (s.extract 0 (bytes3 pre)) t = some true := by
  obtain ⟨k, rfl⟩ : ∃ j, k = j + 1 + 1 := ⟨k - 2, by omega⟩
  have hx : (s.extract 0 (bytes3 pre)).size = bytes3 pre := by simp; omega
  have hj := join s t pre suf h hv hP
  have hj0 := join s ByteArray.empty pre suf h hv hP
  rw [ByteArray.append_empty, empty_rs, List.map_nil, List.append_nil] at hj0
  have hlp := rs_length (s.extract 0 (bytes3 pre))
  have hlt := rs_length t
  rw [hj0] at hlp
  have hfrom := from_end (end_append (s.extract 0 (bytes3 pre)) t)
  rw [hx] at hfrom
  have hpart := part_end (s.extract 0 (bytes3 pre)) t pre (by rw [hx, hfrom]; exact hj)
  have hua : (s.extract 0 (bytes3 pre) ++ t).size = bytes3 pre + t.size := by rw [ByteArray.size_append, hx]
  simp only [trestlelaw01_RunesJoin.j0]
  unfold runes_List.f runes_Count.f runes_Part.f
  rw [if_pos (by omega), if_pos (by omega), if_pos (by omega), if_pos (by omega), if_pos (by omega), if_pos (by omega)]
  have hlen : (rs (s.extract 0 (bytes3 pre) ++ t)).length = pre.length + (rs t).length := by rw [hj]; simp
  rw [Option.bind_some, Option.bind_some, if_pos (by omega), hj0, Option.bind_some]
  rw [if_pos (by rw [List.length_map, List.length_map, List.length_map, hlen, RA.w64_id _ (by omega) (by omega)]; omega), Option.bind_some, Option.bind_some, Option.bind_some, if_pos (by rw [hlen, RA.w64_id _ (by omega) (by omega)]; omega), if_pos (by omega), Option.bind_some, List.length_map, List.length_map]
  rw [hpart]
  simp only [trestlelaw01_RunesJoin.j1]
  rw [show (⟨t.data.toList.toArray⟩ : ByteArray) = t from rfl, bne_self_eq_false, if_neg (by decide), hj]
  have := loop (s.extract 0 (bytes3 pre)) pre (rs t) (by omega) (fun r hr => by have := rs_fits t r hr; omega) (by omega) (by omega) (pre.length + (rs t).length) 0 k (by omega) (by omega)
  rw [hx] at this
  exact this

theorem runesJoin (s t : ByteArray) (hs : s.size ≤ 1048576) (ht : t.size ≤ 1048576) : ∃ k, trestlelaw01_RunesJoin.f k s t = some true := by
  refine ⟨s.size + t.size + 20, ?_⟩
  unfold trestlelaw01_RunesJoin.f
  rw [RX.fixed_ok]
  simp only [Option.bind_some]
  rw [if_pos trivial, ref_bad s (by omega) _ (by omega)]
  simp only [Option.bind_some]
  rcases firstBad_split (rs s) with ⟨h1, h2⟩ | ⟨pre, r, suf, h1, h2, h3⟩
  · rw [h1, if_neg (by omega)]
    have hb := bytes3_rs s
    have := tail_true s t (rs s) [] (s.size + t.size + 20) hs ht (by simp) h2 (by omega) (by omega)
    rw [hb] at this
    have e : s.extract 0 s.size = s := by simp
    rw [e] at this
    exact this
  · have hn := scan_next s _ _ pre suf r h1
    rw [Nat.zero_add] at hn
    rw [h2, if_pos (by omega), if_pos (by omega), if_pos (by omega)]
    have := tail_true s t pre (r :: suf) (s.size + t.size + 20) hs ht h1 h3 (by omega) (by omega)
    rw [← hn.1] at this
    simpa using this
end Go.Proofs.Ytlmmhlabacghnaa.RJ
