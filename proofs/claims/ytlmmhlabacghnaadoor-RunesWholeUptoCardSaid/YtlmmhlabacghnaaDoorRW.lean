/- RunesWhole: the plain law: the runes are the text, parted anywhere; turned twice it is itself. -/
import Derived.Test.YtlmmhlabacghnaaDoorRJ
import Derived.Test.YtlmmhlabacghnaaDoorRP
import Derived.Test.YtlmmhlabacghnaaDoorRC
import Derived.Test.YtlmmhlabacghnaaDoorPRx12
namespace Go.Proofs.YtlmmhlabacghnaaDoor.RW
open Go.RowKit Go.Proofs.YtlmmhlabacghnaaDoor.PR Go.Proofs.YtlmmhlabacghnaaDoor.RuneMath Go.Proofs.YtlmmhlabacghnaaDoor.RA Go.Proofs.YtlmmhlabacghnaaDoor.RX Go.Proofs.YtlmmhlabacghnaaDoor.RJ Go.Proofs.YtlmmhlabacghnaaDoorW.PrintWords Go.Proofs.YtlmmhlabacghnaaDoorW.PrintLast Go.Proofs.YtlmmhlabacghnaaDoorW.PrintMore
set_option linter.unusedVariables false
set_option linter.unusedSimpArgs false

/-! ### The runes' bytes, one behind the other -/
def catB (s : ByteArray) : List R3 → List UInt8
  | [] => []
  | r :: l => (own3 s r).data.toList ++ catB s l
theorem catB_app (s : ByteArray) : ∀ a b, catB s (a ++ b) = catB s a ++ catB s b
  | [], _ => rfl
  | r :: a, b => by simp [catB, catB_app s a b]
theorem turn_cat (s : ByteArray) : ∀ l, turnB s l = catB s l.reverse
  | [] => rfl
  | r :: l => by simp [turnB, turn_cat s l, catB_app, catB]
theorem cat_turn (s : ByteArray) (l : List R3) : turnB s l.reverse = catB s l := by rw [turn_cat, List.reverse_reverse]
theorem partN_cat (s : ByteArray) (i j : Int) : ∀ (l : List R3) (n : Nat), i ≤ n → ((n + l.length : Nat) : Int) ≤ j → partN s i j n l = catB s l
  | [], _, _, _ => rfl
  | r :: l, n, h1, h2 => by
    simp only [List.length_cons] at h2
    simp only [partN, catB]
    rw [if_pos ⟨h1, by omega⟩, partN_cat s i j l (n + 1) (by omega) (by omega)]
theorem cat_all (s : ByteArray) : catB s (rs s) = s.data.toList := by
  have hb := bytes3_rs s
  have h := RP.partN_seg s 0 ((rs s).length : Int) (rs s) [] _ 0 0 (show scan s _ 0 = rs s ++ [] by rw [List.append_nil]; rfl) (by decide) (by omega)
  rw [partN_cat s _ _ _ _ (by decide) (by omega), hb] at h
  rw [h, List.drop_zero, List.take_of_length_le]
  rw [Array.length_toList]
  exact Nat.le_refl _
theorem two_parts (s : ByteArray) (k N : Int) : ∀ (l : List R3) (n : Nat), ((n + l.length : Nat) : Int) ≤ N → partN s 0 k n l ++ partN s (mx k 0) N n l = catB s l
  | [], _, _ => rfl
  | r :: l, n, h => by
    simp only [List.length_cons] at h
    by_cases hk : (n : Int) < k
    · simp only [partN, catB]
      rw [if_pos ⟨by omega, hk⟩, if_neg (by unfold mx; split <;> omega), List.nil_append, List.append_assoc, two_parts s k N l (n + 1) (by omega)]
    · rw [partN_late s 0 k _ n (by omega), List.nil_append, partN_cat s (mx k 0) N (r :: l) n (by unfold mx; split <;> omega) (by simp only [List.length_cons]; omega)]

/-! ### Turned twice -/
def relay : Nat → List R3 → List R3
  | _, [] => []
  | p, r :: l => (p, r.2.1, r.2.2) :: relay (p + r.2.1) l
/-- A rune of s, whole and no bad byte. -/
structure Good (s : ByteArray) (r : R3) : Prop where
  lt : r.1 < s.size
  dec : Utf8.decode s r.1 = (r.2.2, r.2.1)
  ok : inv r = false
theorem own_len (s : ByteArray) (r : R3) (h : Good s r) : (own3 s r).data.toList.length = r.2.1 := by
  have hf := width_fits s r.1 h.lt
  rw [h.dec] at hf
  rw [Array.length_toList]
  exact own3_size s r hf
theorem own_get (s : ByteArray) (r : R3) (h : Good s r) (i : Nat) (hi : i < r.2.1) : (own3 s r).data.toList[i]? = some (s.get! (r.1 + i)) := by
  have hf := width_fits s r.1 h.lt
  rw [h.dec] at hf
  dsimp only at hf
  rw [RJ.get_lt s (r.1 + i) (by omega)]
  unfold own3
  simp only [ByteArray.data_extract, Array.toList_extract, List.extract_eq_take_drop]
  rw [List.getElem?_take_of_lt (by omega), List.getElem?_drop, List.getElem?_eq_getElem (by rw [Array.length_toList]; exact (by omega : r.1 + i < s.size))]
  rfl
theorem from_cat (s : ByteArray) : ∀ (l : List R3) (P : List UInt8), (∀ r ∈ l, Good s r) → from_ ⟨(P ++ catB s l).toArray⟩ P.length = relay P.length l
  | [], P, _ => by
    rw [from_ge]
    · rfl
    · simp [catB, RC.size_list]
  | r :: l, P, h => by
    have hg := h r List.mem_cons_self
    have hl := own_len s r hg
    have hw := width_pos s r.1 hg.lt
    rw [hg.dec] at hw
    dsimp only at hw
    have ih := from_cat s l (P ++ (own3 s r).data.toList) (fun x hx => h x (List.mem_cons_of_mem _ hx))
    rw [List.append_assoc, List.length_append, hl] at ih
    have hsz : (⟨(P ++ catB s (r :: l)).toArray⟩ : ByteArray).size = P.length + (r.2.1 + (catB s l).length) := by
      rw [RC.size_list]
      simp only [catB, List.length_append, hl]
    have hd : Utf8.decode ⟨(P ++ catB s (r :: l)).toArray⟩ P.length = Utf8.decode s r.1 := by
      refine decode_stable s _ r.1 P.length ?_ ?_ (fun i hi => ?_) hg.lt
      · rw [hg.dec]
        intro hb
        have h2 := hg.ok
        simp only [Prod.mk.injEq] at hb
        simp [inv, hb.1, hb.2] at h2
      · rw [hg.dec, hsz]
        dsimp only
        omega
      · rw [hg.dec] at hi
        dsimp only at hi
        rw [RC.get_list, List.getElem?_append_right (by omega), Nat.add_sub_cancel_left]
        simp only [catB]
        rw [List.getElem?_append_left (by omega), own_get s r hg i hi]
        rfl
    rw [from_lt _ _ (by omega), hd, hg.dec]
    simp only [relay]
    congr 1
theorem turn_relay (s : ByteArray) : ∀ (l : List R3) (P : List UInt8), (∀ r ∈ l, Good s r) → turnB ⟨(P ++ catB s l).toArray⟩ (relay P.length l) = turnB s l
  | [], P, _ => rfl
  | r :: l, P, h => by
    have hg := h r List.mem_cons_self
    have hl := own_len s r hg
    have ih := turn_relay s l (P ++ (own3 s r).data.toList) (fun x hx => h x (List.mem_cons_of_mem _ hx))
    rw [List.append_assoc, List.length_append, hl] at ih
    simp only [relay, turnB]
    have e : (own3 ⟨(P ++ catB s (r :: l)).toArray⟩ (P.length, r.2.1, r.2.2)).data.toList = (own3 s r).data.toList := by
      show ((⟨(P ++ catB s (r :: l)).toArray⟩ : ByteArray).extract P.length (P.length + r.2.1)).data.toList = _
      simp only [ByteArray.data_extract, Array.toList_extract, List.extract_eq_take_drop, Nat.add_sub_cancel_left, List.drop_left, catB]
      rw [← hl, List.take_left]
    rw [e]
    congr 1
theorem scan_good (s : ByteArray) : ∀ f p, ∀ r ∈ scan s f p, r.1 < s.size ∧ Utf8.decode s r.1 = (r.2.2, r.2.1)
  | 0, p, r, h => by simp [scan] at h
  | f + 1, p, r, h => by
    simp only [scan] at h
    split at h
    · rename_i hp
      rcases List.mem_cons.1 h with h | h
      · rw [h]
        exact ⟨hp, rfl⟩
      · exact scan_good s f _ r h
    · cases h
theorem turned_twice (s : ByteArray) (hok : ∀ r ∈ rs s, inv r = false) : turnB ⟨(turnB s (rs s)).toArray⟩ (rs ⟨(turnB s (rs s)).toArray⟩) = s.data.toList := by
  have hg : ∀ r ∈ (rs s).reverse, Good s r := fun r hr => by
    have hr := List.mem_reverse.1 hr
    have := scan_good s _ _ r hr
    exact ⟨this.1, this.2, hok r hr⟩
  rw [turn_cat s (rs s)]
  have h1 := from_cat s (rs s).reverse [] hg
  have h2 := turn_relay s (rs s).reverse [] hg
  rw [List.nil_append, List.length_nil] at h1 h2
  have e : rs ⟨(catB s (rs s).reverse).toArray⟩ = relay 0 (rs s).reverse := h1
  rw [e, h2, cat_turn, cat_all]

theorem j2_ok (k : Nat) (s : ByteArray) (i : Int) (hs : s.size ≤ 1048576) : trestlelaw01_RunesWhole.j2 (k + 1) s i false = some true := by
  have hl := rs_length s
  have h2 := two_parts s i (s.size : Int) (rs s) 0 (by omega)
  rw [cat_all] at h2
  simp only [trestlelaw01_RunesWhole.j2]
  rw [if_neg (by decide)]
  unfold runes_Part.f
  rw [if_pos (by omega), if_pos (by omega), Option.bind_some, Option.bind_some]
  have hj : (⟨(partN s 0 i 0 (rs s)).toArray⟩ ++ ⟨(partN s (mx i 0) (s.size : Int) 0 (rs s)).toArray⟩ : ByteArray) = s := by
    apply ByteArray.ext
    apply Array.ext'
    rw [← h2]
    simp [ByteArray.data_append]
  have hlen : (partN s 0 i 0 (rs s)).length + (partN s (mx i 0) (s.size : Int) 0 (rs s)).length = s.size := by
    rw [← List.length_append, h2, Array.length_toList]
    rfl
  rw [hj, if_pos (by rw [RC.size_list, RC.size_list]; omega), if_pos rfl]
  unfold runes_Bad.f
  rw [if_pos (by omega), Option.bind_some]
  rcases firstBad_split (rs s) with ⟨h3, h4⟩ | ⟨pre, r, suf, _, h4, _⟩
  · rw [h3, if_neg (by omega)]
    have ht := turnB_size s (rs s) (rs_fits s)
    rw [bytes3_rs] at ht
    unfold runes_Turned.f
    rw [if_pos (by omega), Option.bind_some, if_pos (by rw [RC.size_list]; omega), Option.bind_some, turned_twice s h4]
    rw [show (⟨s.data.toList.toArray⟩ : ByteArray) = s from rfl, beq_self_eq_true]
  · rw [h4, if_pos (by omega)]

theorem whole_l0 (s : ByteArray) (i : Int) (hs : s.size ≤ 1048576) : ∀ (suf pre : List R3) (k : Nat), rs s = pre ++ suf → 2 * suf.length + 4 ≤ k →
    trestlelaw01_RunesWhole.l0 k s i ((rs s).map toS) (bytes3 pre : Int) (s.extract 0 (bytes3 pre)) (pre.length : Int) = some true
  | [], pre, k, h, hk => by
    obtain ⟨k, rfl⟩ : ∃ m, k = m + 1 + 1 + 1 := ⟨k - 3, by omega⟩
    have hl := rs_length s
    rw [List.append_nil] at h
    have hb := bytes3_rs s
    rw [h] at hb
    simp only [trestlelaw01_RunesWhole.l0]
    rw [List.length_map, h, if_neg (by omega)]
    simp only [trestlelaw01_RunesWhole.j1]
    rw [if_neg (by decide), hb]
    have e : s.extract 0 s.size = s := by simp
    have hc : runes_Count.f s = some ((pre.map toS).length : Int) := by
      unfold runes_Count.f
      rw [if_pos (by omega), h, List.length_map]
    have := j2_ok k s i hs
    rw [e, hc]
    by_cases hle : ((pre.map toS).length : Int) ≤ 2000
    · rw [if_pos hle, if_pos rfl, Option.bind_some, bne_self_eq_false]
      exact this
    · rw [if_neg hle, Option.bind_some, bne_self_eq_false]
      exact this
  | r :: suf, pre, k, h, hk => by
    obtain ⟨k, rfl⟩ : ∃ m, k = m + 1 + 1 + 1 := ⟨k - 3, by simp at hk; omega⟩
    have hl := rs_length s
    have hlen : (rs s).length = pre.length + (suf.length + 1) := by rw [h]; simp
    have hg := scan_good s _ _ r (show r ∈ rs s by rw [h]; simp)
    have hn := scan_next s _ _ pre suf r h
    rw [Nat.zero_add] at hn
    simp only [List.length_cons] at hk
    simp only [trestlelaw01_RunesWhole.l0]
    rw [List.length_map, if_pos (by omega)]
    by_cases h2 : (pre.length : Int) < 2000
    · rw [decide_eq_true h2]
      simp only [trestlelaw01_RunesWhole.j1]
      have hrd : rd_T28 ((rs s).map toS) (pre.length : Int) = toS r := by
        rw [h]
        simp [rd_T28]
      have hdec : runes_Decode.f s (toS r).f0 = some ((r.1 : Int), (r.2.1 : Int), (r.2.2 : Int), 0) := by
        have h3 := RP.dec_eq 0 s (r.1 : Int) (by omega)
        refine (show runes_Decode.f s (r.1 : Int) = _ from h3).trans ?_
        unfold trestleref01_Decode.f
        rw [if_neg (by omega), if_neg (by omega), at_eq 0 s r.1 (by omega) hg.1, Option.bind_some, hg.2]
      rw [if_pos trivial, if_pos (by omega), List.length_map, if_pos (by omega), hrd, hdec, Option.bind_some]
      unfold toS
      dsimp only
      rw [if_pos (show (0 : Int) = 0 from rfl), if_neg (by simp), if_pos (by omega), if_neg (by omega), RA.w64_id _ (by omega) (by omega), if_neg (by omega), if_pos (by omega), RA.w64_id ((r.1 : Int) + (r.2.1 : Int)) (by omega) (by omega), if_pos (by omega), if_pos (by omega)]
      have hz1 : (s.extract 0 (bytes3 pre)).size ≤ s.size := by simp; omega
      have hz2 : (s.extract ((r.1 : Int)).toNat ((r.1 : Int) + (r.2.1 : Int)).toNat).size ≤ s.size := by simp; omega
      rw [if_pos (by omega), RA.w64_id _ (by omega) (by omega), RA.w64_id _ (by omega) (by omega)]
      have ih := whole_l0 s i hs suf (pre ++ [r]) (k + 1) (by rw [h]; simp) (by omega)
      rw [bytes3_snoc, show ((pre ++ [r]).length : Int) = (pre.length : Int) + 1 by simp] at ih
      have ex : s.extract 0 (bytes3 pre) ++ s.extract ((r.1 : Int)).toNat ((r.1 : Int) + (r.2.1 : Int)).toNat = s.extract 0 (bytes3 pre + r.2.1) := by
        rw [show ((r.1 : Int)).toNat = bytes3 pre by omega, show ((r.1 : Int) + (r.2.1 : Int)).toNat = bytes3 pre + r.2.1 by omega]
        simp
      rw [ex, show ((bytes3 pre : Int) + (r.2.1 : Int)) = ((bytes3 pre + r.2.1 : Nat) : Int) by omega]
      exact ih
    · rw [decide_eq_false h2]
      simp only [trestlelaw01_RunesWhole.j1]
      rw [if_neg (by decide), List.length_map, if_neg (by omega)]
      unfold runes_Count.f
      rw [if_pos (by omega), Option.bind_some, bne_self_eq_false]
      exact j2_ok k s i hs

theorem runesWhole (s : ByteArray) (i : Int) (hs : s.size ≤ 1048576) : ∃ k, trestlelaw01_RunesWhole.f k s i = some true := by
  refine ⟨2 * (rs s).length + 4, ?_⟩
  have h := whole_l0 s i hs (rs s) [] (2 * (rs s).length + 4) rfl (Nat.le_refl _)
  have hl := rs_length s
  unfold trestlelaw01_RunesWhole.f
  rw [RC.fixed_ok, Option.bind_some, if_pos rfl]
  unfold runes_List.f
  rw [if_pos (by omega), Option.bind_some]
  have e : s.extract 0 (bytes3 []) = (⟨#[]⟩ : ByteArray) := by
    apply ByteArray.ext
    simp [bytes3]
  rw [e] at h
  exact h
end Go.Proofs.YtlmmhlabacghnaaDoor.RW
