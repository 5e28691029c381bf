/- Valid texts, in plain numbers: where runes begin; Offset, Len, Step there. -/
import Derived.Test.YtlmmhlabacghnaaDoorUOff
import Derived.Test.YtlmmhlabacghnaaDoorRJ
import Derived.Test.YtlmmhlabacghnaaDoorPRx7
namespace Go.Proofs.YtlmmhlabacghnaaDoor.UP
open Go.RowKit Go.Proofs.YtlmmhlabacghnaaDoor.PR Go.Proofs.YtlmmhlabacghnaaDoor.RuneMath Go.Proofs.YtlmmhlabacghnaaDoor.RA Go.Proofs.YtlmmhlabacghnaaDoor.RX Go.Proofs.YtlmmhlabacghnaaDoor.RJ Go.Proofs.YtlmmhlabacghnaaDoorW.PrintWords Go.Proofs.YtlmmhlabacghnaaDoorW.PrintLast Go.Proofs.YtlmmhlabacghnaaDoorW.PrintMore
set_option linter.unusedVariables false
set_option linter.unusedSimpArgs false

/-! ### Runes and places -/
theorem from_split (s : ByteArray) : ∀ (pre suf : List R3) (p : Nat), from_ s p = pre ++ suf → from_ s (p + bytes3 pre) = suf
  | [], suf, p, h => by simpa [bytes3] using h
  | r :: pre, suf, p, h => by
    by_cases hp : p < s.size
    · rw [from_lt s p hp] at h
      simp only [List.cons_append, List.cons.injEq] at h
      obtain ⟨h0, h1⟩ := h
      have e : bytes3 (r :: pre) = (Utf8.decode s p).2 + bytes3 pre := by rw [← h0]; simp [bytes3]
      rw [e, ← Nat.add_assoc]
      exact from_split s pre suf _ h1
    · rw [from_ge s p hp] at h
      cases h
theorem from_bytes (s : ByteArray) : ∀ (l : List R3) (p : Nat), p ≤ s.size → from_ s p = l → p + bytes3 l = s.size
  | [], p, hp, h => by
    by_cases hl : p < s.size
    · rw [from_lt s p hl] at h
      cases h
    · simp [bytes3]
      omega
  | r :: l, p, hp, h => by
    by_cases hl : p < s.size
    · rw [from_lt s p hl] at h
      simp only [List.cons.injEq] at h
      have := from_bytes s l _ (width_fits s p hl) h.2
      have e : bytes3 (r :: l) = (Utf8.decode s p).2 + bytes3 l := by rw [← h.1]; simp [bytes3]
      omega
    · rw [from_ge s p hl] at h
      cases h
theorem good_bytes (s : ByteArray) (hs : s.size ≤ 140737488351232) (p : Nat) (hp : p < s.size) (hv : inv (p, (Utf8.decode s p).2, (Utf8.decode s p).1) = false) :
    inB s (p + 1) = false ∧ ∀ i, 1 ≤ i → i < (Utf8.decode s p).2 → inB s (p + 1 + i) = true := by
  have hf := width_fits s p hp
  have key : ∀ i, p + i < s.size → inB s (p + 1 + i) = decide (128 ≤ (s.get! (p + i)).toNat ∧ (s.get! (p + i)).toNat ≤ 191) := by
    intro i hi
    unfold inB
    have := bt_get s p i hi
    rw [show ((p + 1 + i : Nat) : Int) - 1 = (p : Int) + (i : Int) by omega, this, decide_eq_decide]
    omega
  have k0 := key 0
  have k1 := key 1
  have k2 := key 2
  have k3 := key 3
  rw [Nat.add_zero, Nat.add_zero] at k0
  have hd := Lib.decode_at s p
  rw [hd] at hv hf ⊢
  rcases Lib.decodeN_shape (s.size - p) (s.get! p).toNat (s.get! (p + 1)).toNat (s.get! (p + 2)).toNat (s.get! (p + 3)).toNat with ⟨c, e⟩ | ⟨c1, c2, c3, cv, e⟩ | ⟨c1, c2, c3, c4, cv, cs, e⟩ | ⟨c1, c2, c3, c4, c5, cv, cw, e⟩ | e
  · rw [e]
    refine ⟨?_, fun i h1 h2 => absurd h2 (by show ¬ i < 1; omega)⟩
    rw [k0 hp, decide_eq_false (by omega)]
  · rw [e]
    refine ⟨by rw [k0 hp, decide_eq_false (by omega)], fun i h1 h2 => ?_⟩
    have h2 : i < 2 := h2
    obtain rfl : i = 1 := by omega
    rw [k1 (by omega), decide_eq_true (by omega)]
  · rw [e]
    refine ⟨by rw [k0 hp, decide_eq_false (by omega)], fun i h1 h2 => ?_⟩
    have h2 : i < 3 := h2
    obtain rfl | rfl : i = 1 ∨ i = 2 := by omega
    · rw [k1 (by omega), decide_eq_true (by omega)]
    · rw [k2 (by omega), decide_eq_true (by omega)]
  · rw [e]
    refine ⟨by rw [k0 hp, decide_eq_false (by omega)], fun i h1 h2 => ?_⟩
    have h2 : i < 4 := h2
    obtain rfl | rfl | rfl : i = 1 ∨ i = 2 ∨ i = 3 := by omega
    · rw [k1 (by omega), decide_eq_true (by omega)]
    · rw [k2 (by omega), decide_eq_true (by omega)]
    · rw [k3 (by omega), decide_eq_true (by omega)]
  · rw [e] at hv
    cases hv
theorem skipF_to (s : ByteArray) (b : Nat) (hb : inB s b = false) : ∀ (f a : Nat), a ≤ b → b - a ≤ f → (∀ x, a ≤ x → x < b → inB s x = true) → skipF s f a = b
  | 0, a, h1, h2, _ => by simp only [skipF]; omega
  | f + 1, a, h1, h2, h3 => by
    simp only [skipF]
    by_cases he : a = b
    · subst he
      rw [hb, if_neg (by decide)]
    · rw [h3 a (Nat.le_refl _) (by omega), if_pos rfl]
      exact skipF_to s b hb f (a + 1) (by omega) (by omega) fun x hx1 hx2 => h3 x (by omega) hx2
theorem backN_to (s : ByteArray) (b : Nat) (hb : inB s b = false) (h1 : 1 ≤ b) : ∀ (a : Nat), b ≤ a → (∀ x, b < x → x ≤ a → inB s x = true) → backN s a = b
  | 0, h, _ => by omega
  | a + 1, h, h3 => by
    simp only [backN]
    by_cases he : a + 1 = b
    · rw [if_neg (by rw [he, hb]; rintro ⟨_, h⟩; cases h), he]
    · rw [if_pos ⟨by omega, h3 (a + 1) (by omega) (Nat.le_refl _)⟩]
      exact backN_to s b hb h1 a (by omega) fun x hx1 hx2 => h3 x hx1 (by omega)

/-- All runes from byte p on are whole. -/
def Ok (s : ByteArray) (p : Nat) : Prop := ∀ r ∈ from_ s p, inv r = false
theorem ok_lt {s : ByteArray} {p : Nat} (h : Ok s p) (hp : p < s.size) : inv (p, (Utf8.decode s p).2, (Utf8.decode s p).1) = false ∧ Ok s (p + (Utf8.decode s p).2) := by
  unfold Ok at h
  rw [from_lt s p hp] at h
  exact ⟨h _ List.mem_cons_self, fun r hr => h r (List.mem_cons_of_mem _ hr)⟩
theorem ok_begin {s : ByteArray} (hs : s.size ≤ 140737488351232) {p : Nat} (h : Ok s p) : inB s (p + 1) = false := by
  by_cases hp : p < s.size
  · exact (good_bytes s hs p hp (ok_lt h hp).1).1
  · exact decide_eq_false (by omega)
theorem ok_split {s : ByteArray} {p : Nat} (h : Ok s p) {pre suf : List R3} (he : from_ s p = pre ++ suf) : Ok s (p + bytes3 pre) := by
  unfold Ok
  rw [from_split s pre suf p he]
  intro r hr
  exact h r (by rw [he]; exact List.mem_append_right _ hr)
theorem skip_next {s : ByteArray} (hs : s.size ≤ 140737488351232) {p : Nat} (h : Ok s p) (hp : p < s.size) : skipN s (p + 1 + 1) = p + (Utf8.decode s p).2 + 1 := by
  obtain ⟨h1, h2⟩ := ok_lt h hp
  have hb := ok_begin hs h2
  obtain ⟨g1, g2⟩ := good_bytes s hs p hp h1
  have hw := width_pos s p hp
  have hf := width_fits s p hp
  refine skipF_to s _ hb _ _ (by omega) (by omega) fun x hx1 hx2 => ?_
  have := g2 (x - (p + 1)) (by omega) (by omega)
  rwa [show p + 1 + (x - (p + 1)) = x by omega] at this
theorem back_prev {s : ByteArray} (hs : s.size ≤ 140737488351232) {p : Nat} (h : Ok s p) (hp : p < s.size) : backN s (p + (Utf8.decode s p).2) = p + 1 := by
  obtain ⟨h1, h2⟩ := ok_lt h hp
  obtain ⟨g1, g2⟩ := good_bytes s hs p hp h1
  have hw := width_pos s p hp
  refine backN_to s _ g1 (by omega) _ (by omega) fun x hx1 hx2 => ?_
  have := g2 (x - (p + 1)) (by omega) (by omega)
  rwa [show p + 1 + (x - (p + 1)) = x by omega] at this
theorem back_self {s : ByteArray} (hs : s.size ≤ 140737488351232) {p : Nat} (h : Ok s p) : backN s (p + 1) = p + 1 :=
  backN_to s _ (ok_begin hs h) (by omega) _ (Nat.le_refl _) fun x h1 h2 => by omega

theorem pos_ok (s : ByteArray) (hs : s.size ≤ 140737488351232) : ∀ (l : List R3) (p n f : Nat), from_ s p = l → Ok s p → p ≤ s.size → s.size + 1 - p ≤ f →
    posF s f (n : Int) (p + 1) = if n ≤ l.length then (((p + bytes3 (l.take n) + 1 : Nat) : Int), true, 0) else (0, false, 0)
  | l, p, n, 0, _, _, hp, hf => by omega
  | [], p, n, f + 1, hl, hok, hp, hf => by
    have hb := from_bytes s [] p hp hl
    simp only [posF, bytes3] at hb ⊢
    rw [if_neg (by rintro ⟨_, h⟩; simp at hb; omega)]
    unfold fin
    by_cases h : n = 0
    · subst h
      simp
    · rw [if_neg (by omega), if_neg (by simp; omega)]
  | r :: l, p, n, f + 1, hl, hok, hp, hf => by
    have hlt : p < s.size := by
      by_cases h : p < s.size
      · exact h
      · rw [from_ge s p h] at hl; cases hl
    have hl' := hl
    rw [from_lt s p hlt] at hl'
    simp only [List.cons.injEq] at hl'
    obtain ⟨h0, h1⟩ := hl'
    have hw := width_pos s p hlt
    have hwf := width_fits s p hlt
    simp only [posF]
    cases n with
    | zero =>
      rw [if_neg (by rintro ⟨h, _⟩; simp at h), if_pos (Nat.zero_le _)]
      simp [fin, bytes3]
    | succ n =>
      rw [if_pos ⟨by omega, by omega⟩, skip_next hs hok hlt, show ((n + 1 : Nat) : Int) - 1 = (n : Int) by omega, pos_ok s hs l (p + (Utf8.decode s p).2) n f h1 (ok_lt hok hlt).2 hwf (by omega)]
      by_cases h : n ≤ l.length
      · rw [if_pos h, if_pos (by simp; omega)]
        have e : bytes3 ((r :: l).take (n + 1)) = (Utf8.decode s p).2 + bytes3 (l.take n) := by rw [List.take_succ_cons, ← h0]; simp [bytes3]
        rw [e, ← Nat.add_assoc]
      · rw [if_neg h, if_neg (by simp; omega)]
theorem neg_ok (s : ByteArray) (hs : s.size ≤ 140737488351232) (hok : Ok s 0) : ∀ (m : Nat) (pre suf : List R3) (n f : Nat), pre.length = m → rs s = pre ++ suf → bytes3 pre + 1 ≤ f →
    negF s f (-(n : Int)) (bytes3 pre + 1) = if n ≤ pre.length then (((bytes3 (pre.take (pre.length - n)) + 1 : Nat) : Int), true, 0) else (0, false, 0)
  | m, pre, suf, n, 0, _, _, hf => by omega
  | 0, pre, suf, n, f + 1, hm, hr, hf => by
    obtain rfl := List.length_eq_zero_iff.1 hm
    simp only [negF]
    rw [if_neg (by rintro ⟨_, h⟩; simp [bytes3] at h)]
    unfold fin
    by_cases h : n = 0
    · subst h
      simp [bytes3]
    · rw [if_neg (by omega), if_neg (by simp; omega)]
  | m + 1, pre, suf, n, f + 1, hm, hr, hf => by
    obtain ⟨q, r, rfl⟩ : ∃ q r, pre = q ++ [r] := ⟨pre.dropLast, pre.getLast (by rintro rfl; cases hm), (List.dropLast_concat_getLast _).symm⟩
    have hq : q.length = m := by simp at hm; omega
    have hr2 : rs s = q ++ (r :: suf) := by rw [hr]; simp
    have hsp := from_split s q (r :: suf) 0 hr2
    rw [Nat.zero_add] at hsp
    have hlt : bytes3 q < s.size := by
      by_cases h : bytes3 q < s.size
      · exact h
      · rw [from_ge s _ h] at hsp; cases hsp
    have hokq := ok_split hok hr2
    rw [Nat.zero_add] at hokq
    rw [from_lt s _ hlt] at hsp
    simp only [List.cons.injEq] at hsp
    have hw := width_pos s _ hlt
    have e : bytes3 (q ++ [r]) = bytes3 q + (Utf8.decode s (bytes3 q)).2 := by rw [bytes3_snoc, ← hsp.1]
    simp only [negF]
    cases n with
    | zero =>
      rw [if_neg (by rintro ⟨h, _⟩; simp at h), if_pos (Nat.zero_le _), Nat.sub_zero, List.take_length]
      simp [fin]
    | succ n =>
      rw [if_pos ⟨by omega, by omega⟩, show bytes3 (q ++ [r]) + 1 - 1 = bytes3 q + (Utf8.decode s (bytes3 q)).2 by omega, back_prev hs hokq hlt, show -((n + 1 : Nat) : Int) + 1 = -(n : Int) by omega,
        neg_ok s hs hok m q (r :: suf) n f hq hr2 (by omega)]
      by_cases h : n ≤ q.length
      · rw [if_pos h, if_pos (by simp; omega), show (q ++ [r]).length - (n + 1) = q.length - n by simp, List.take_append_of_le_length (by omega)]
      · rw [if_neg h, if_neg (by simp; omega)]

/-! ### Len -/
theorem upto_all (b : Int) : ∀ l : List R3, (∀ r ∈ l, (r.1 : Int) + 1 ≤ b) → upto b l = l
  | [], _ => rfl
  | r :: l, h => by rw [upto_cons b r l (h r List.mem_cons_self), upto_all b l fun x hx => h x (List.mem_cons_of_mem _ hx)]
theorem upto_part (b : Int) : ∀ (l m : List R3), (∀ r ∈ l, (r.1 : Int) + 1 ≤ b) → (∀ r, m.head? = some r → ¬ (r.1 : Int) + 1 ≤ b) → upto b (l ++ m) = l
  | [], [], _, _ => rfl
  | [], r :: m, _, h => upto_stop b r m (h r rfl)
  | r :: l, m, h, h2 => by rw [List.cons_append, upto_cons b r _ (h r List.mem_cons_self), upto_part b l m (fun x hx => h x (List.mem_cons_of_mem _ hx)) h2]
theorem span_all (s : ByteArray) (A : Nat) : spanL s A s.size = from_ s A :=
  upto_all _ _ fun r hr => by have := (from_bound s _ A r hr).1; omega
theorem lenL_ok (l : List R3) (h : ∀ r ∈ l, inv r = false) : lenL l = ((l.length : Int), 0, 0) := by
  unfold lenL
  rw [badAt_none l h, if_pos rfl]

/-! ### The valid beginning -/
theorem rd_r32 (pre rest : List R3) (r : R3) : rd_T32 ((pre ++ r :: rest).map toR) (pre.length : Int) = toR r := rd_r pre rest r
theorem bad_l0 (l : List R3) (hl : l.length ≤ 4611686018427387904) : ∀ (suf pre : List R3) (k : Nat), l = pre ++ suf → suf.length + 1 ≤ k → trestleref01_Bad.l0 k (l.map toR) (pre.length : Int) = some (firstBad suf)
  | suf, pre, 0, _, hk => by omega
  | [], pre, k + 1, h, hk => by
    simp only [trestleref01_Bad.l0]
    rw [if_neg (by rw [h]; simp)]
    rfl
  | r :: suf, pre, k + 1, h, hk => by
    simp only [trestleref01_Bad.l0]
    have hll : l.length = pre.length + (suf.length + 1) := by rw [h]; simp
    rw [if_pos (by rw [List.length_map]; omega), if_pos (by omega), h, rd_r32]
    have hk2 : suf.length + 1 ≤ k := by
      have : (r :: suf).length = suf.length + 1 := rfl
      omega
    have ih := bad_l0 l hl suf (pre ++ [r]) k (by rw [h]; simp) hk2
    rw [h] at ih
    rw [show (((pre ++ [r]).length : Nat) : Int) = (pre.length : Int) + 1 by simp] at ih
    rw [w64_id _ (by omega) (by omega)]
    have hi : inv r = ((r.2.2 == 65533) && (r.2.1 == 1)) := rfl
    simp only [firstBad]
    show (if (r.2.2 : Int) = 65533 then (if (r.2.1 : Int) = 1 then some (r.1 : Int) else trestleref01_Bad.l0 k ((pre ++ r :: suf).map toR) ((pre.length : Int) + 1)) else trestleref01_Bad.l0 k ((pre ++ r :: suf).map toR) ((pre.length : Int) + 1)) = _
    by_cases h1 : r.2.2 = 65533
    · rw [if_pos (show (r.2.2 : Int) = 65533 by omega)]
      by_cases h2 : r.2.1 = 1
      · rw [if_pos (show (r.2.1 : Int) = 1 by omega), if_pos (by rw [hi, h1, h2]; rfl)]
      · rw [if_neg (show ¬ (r.2.1 : Int) = 1 by omega), if_neg (by rw [hi, beq_eq_false_iff_ne.2 h2, Bool.and_false]; decide)]
        exact ih
    · rw [if_neg (show ¬ (r.2.2 : Int) = 65533 by omega), if_neg (by rw [hi, beq_eq_false_iff_ne.2 h1, Bool.false_and]; decide)]
      exact ih
theorem ref_bad (s : ByteArray) (hs : s.size ≤ 5864062014804) (k : Nat) (hk : s.size + 13 ≤ k) : trestleref01_Bad.f k s = some (firstBad (rs s)) := by
  unfold trestleref01_Bad.f
  rw [ref_list s hs k hk, Option.bind_some]
  have hl := rs_length s
  exact bad_l0 (rs s) (by omega) (rs s) [] k rfl (by omega)
/-- What lies ahead of the first bad byte is a valid text. -/
theorem trim (s : ByteArray) : (firstBad (rs s) = -1 ∧ Ok s 0) ∨ ∃ k : Nat, firstBad (rs s) = (k : Int) ∧ k ≤ s.size ∧ Ok (s.extract 0 k) 0 := by
  rcases firstBad_split (rs s) with ⟨h1, h2⟩ | ⟨pre, r, suf, h1, h2, h3⟩
  · exact .inl ⟨h1, h2⟩
  · obtain ⟨n1, n2, n3⟩ := scan_next s _ _ pre suf r h1
    rw [Nat.zero_add] at n1
    refine .inr ⟨r.1, h2, by omega, ?_⟩
    have hj := join s ByteArray.empty pre (r :: suf) h1 h3 (by omega)
    rw [empty_rs, List.map_nil, List.append_nil, ByteArray.append_empty] at hj
    rw [n1]
    intro x hx
    exact h3 x (by rw [← hj]; exact hx)
end Go.Proofs.YtlmmhlabacghnaaDoor.UP
