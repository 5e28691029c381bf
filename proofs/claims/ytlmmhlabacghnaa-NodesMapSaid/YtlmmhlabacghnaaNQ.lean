/- nodes: Get; Find, Get, Put of any key in a part of any size. -/
import Derived.Test.YtlmmhlabacghnaaNE
namespace Go.Proofs.Ytlmmhlabacghnaa.PH
open Go.RowKit Go.Proofs.YtlmmhlabacghnaaW.PrintWords Go.Proofs.YtlmmhlabacghnaaW.PrintLast Go.Proofs.YtlmmhlabacghnaaW.PrintMore
open Go.Proofs.Ytlmmhlabacghnaa.HM
set_option linter.unusedVariables false
set_option linter.unusedSimpArgs false

/-- What Find answers of these nodes. -/
def FindC (l : List Nd) (k : Ky) (at_ r : Int) : Prop := ∀ (B g a cap : Nat) (f : Int) (w : World), IsP B g a cap l f w →
    Calls Try.prog 53 #[.pointer (some ⟨g, 0, none⟩), kv k] w fun e w' => e = .returned (.tuple #[.int .i64 at_, .int .i64 r]) ∧ Below w.heap.size w w'

/-- The value at a place; none: Nil. -/
def valAt (l : List Nd) (at_ : Int) : Ky := if 0 ≤ at_ then (nd l at_.toNat).f1 else z30

set_option maxHeartbeats 4000000 in
set_option maxRecDepth 100000 in
theorem get_call {B g a cap : Nat} {l : List Nd} {f : Int} {w : World} (h : IsP B g a cap l f w) (k : Ky) (at_ r : Int) (hfc : FindC l k at_ r) (hat : at_ = -1 ∨ ∃ p : Nat, at_ = p ∧ p < l.length) :
    Calls Try.prog 51 #[.pointer (some ⟨g, 0, none⟩), kv k] w fun e w' => e = .returned (.tuple #[kv (valAt l at_), .int .i64 r]) ∧ Below w.heap.size w w' := by
  unfold kv
  have H := Lib.hid (And.intro h hfc)
  have hlen := h.len
  clear h hfc
  go_enter Try.func51, Try.ntmps51
  go_wp2_with fail
  obtain ⟨w1, hw1, hb1, hn1, hs1⟩ : ∃ w1, (w.alloc (.cells #[.int .i64 k.f0, .int .i64 k.f1, .string k.f2] 30)).alloc (.cells #[.int .i64 0, .int .i64 0, .string (⟨#[]⟩ : ByteArray)] 30) = w1 ∧ Below w.heap.size w w1 ∧
      w1.heap[w.heap.size + 1]? = some (.cells #[.int .i64 0, .int .i64 0, .string (⟨#[]⟩ : ByteArray)] 30 (0, 0)) ∧ w1.heap.size = w.heap.size + 2 :=
    ⟨_, rfl, ((Below.refl _ _).alloc (Nat.le_refl _) _).alloc (by simp) _, by have := heap_alloc_new (w.alloc (.cells #[.int .i64 k.f0, .int .i64 k.f1, .string k.f2] 30)) (.cells #[.int .i64 0, .int .i64 0, .string (⟨#[]⟩ : ByteArray)] 30); simpa using this, by simp⟩
  rw [hw1]
  have hx := H.out.2 B g a cap f w1 (H.out.1.below hb1)
  unfold kv at hx
  refine hx.mono ?_
  rintro e w2 ⟨rfl, hb2⟩
  have I2 := Lib.hid ((H.out.1.below hb1).below hb2)
  have N2 := Lib.hid ((hb2.block (w.heap.size + 1) (by omega)).trans hn1)
  have B2 := Lib.hid (hb1.trans (hb2.mono (by omega)))
  clear hx hw1 hb1 hn1 hs1 hb2
  obtain ⟨z0, z1, z2⟩ := three_of N2.out
  have u0 := blk_frozen N2.out 0
  have u1 := blk_frozen N2.out 1
  have u2 := blk_frozen N2.out 2
  rcases hat with rfl | ⟨p, rfl, hp⟩
  · have d1 : decide ((-1 : Int) < 0) = true := by decide
    go_wp2_with fail
    obtain ⟨G, hG⟩ : ∃ G, w.heap.size + 1 = G := ⟨_, rfl⟩
    have hn := N2.out
    rw [hG] at hn ⊢
    have h0 : (((w2.setCell ⟨G, 0, none⟩ (.int .i64 0)).setCell ⟨G, 1, none⟩ (.int .i64 0)).setCell ⟨G, 2, none⟩ (.string (⟨#[]⟩ : ByteArray))).heap[G]? = some (.cells #[.int .i64 0, .int .i64 0, .string (⟨#[]⟩ : ByteArray)] 30 (0, 0)) := by
      refine blk_put (cs := #[.int .i64 0, .int .i64 0, .string (⟨#[]⟩ : ByteArray)]) ?_ 2 _ rfl
      refine blk_put (cs := #[.int .i64 0, .int .i64 0, .string (⟨#[]⟩ : ByteArray)]) ?_ 1 _ rfl
      exact blk_put (cs := #[.int .i64 0, .int .i64 0, .string (⟨#[]⟩ : ByteArray)]) hn 0 _ rfl
    have hle : w.heap.size ≤ G := by omega
    exact bodyPost_ret (results_ct rfl _ _ G 30 _ (0, 0) _ rfl h0 Try.underlying30 rfl (by kernel_rfl)) rfl ⟨rfl, ((B2.out.setCell (p := ⟨G, 0, none⟩) hle _).setCell (p := ⟨G, 1, none⟩) hle _).setCell (p := ⟨G, 2, none⟩) hle _⟩
  · have d1 : decide ((p : Int) < 0) = false := decide_eq_false (by omega)
    have p1 : 0 ≤ (p : Int) := by omega
    have p2 : (p : Int) < (l.length : Int) := by omega
    have hpp : (p : Int) ≤ 65536 := by omega
    obtain ⟨x0, x1, y0, y1⟩ := two_of I2.out.blk
    obtain ⟨e0, e1, e2, e3, e4, e5, e6⟩ := I2.out.at p hp
    replace p1 := eq_true p1
    replace p2 := eq_true p2
    have hv : RowKit.Hid (valAt l p = (nd l p).f1) := Lib.hid (by unfold valAt; rw [if_pos (by omega), Int.toNat_natCast])
    clear hp
    go_wp2_with fail
    obtain ⟨G, hG⟩ : ∃ G, w.heap.size + 1 = G := ⟨_, rfl⟩
    have hn := N2.out
    rw [hG] at hn ⊢
    have h0 : (((w2.setCell ⟨G, 0, none⟩ (.int .i64 (nd l p).f1.f0)).setCell ⟨G, 1, none⟩ (.int .i64 (nd l p).f1.f1)).setCell ⟨G, 2, none⟩ (.string (nd l p).f1.f2)).heap[G]? = some (.cells #[.int .i64 (nd l p).f1.f0, .int .i64 (nd l p).f1.f1, .string (nd l p).f1.f2] 30 (0, 0)) := by
      refine blk_put (cs := #[.int .i64 (nd l p).f1.f0, .int .i64 (nd l p).f1.f1, .string (⟨#[]⟩ : ByteArray)]) ?_ 2 _ rfl
      refine blk_put (cs := #[.int .i64 (nd l p).f1.f0, .int .i64 0, .string (⟨#[]⟩ : ByteArray)]) ?_ 1 _ rfl
      exact blk_put (cs := #[.int .i64 0, .int .i64 0, .string (⟨#[]⟩ : ByteArray)]) hn 0 _ rfl
    have hle : w.heap.size ≤ G := by omega
    rw [hv.out]
    exact bodyPost_ret (results_ct rfl _ _ G 30 _ (0, 0) _ rfl h0 Try.underlying30 rfl (by kernel_rfl)) rfl ⟨rfl, ((B2.out.setCell (p := ⟨G, 0, none⟩) hle _).setCell (p := ⟨G, 1, none⟩) hle _).setCell (p := ⟨G, 2, none⟩) hle _⟩

/-- What holds of a part of any size. -/
structure InvE (l : List Nd) (f : Nat) : Prop where
  fle : f ≤ l.length
  inv : l = [] ∨ ∃ C, Inv l f C
theorem InvE.free {l : List Nd} {f : Nat} (h : InvE l f) : ∀ p, f ≤ p → p < l.length → (nd l p).f0.f0 ≠ 0 := by
  rcases h.inv with rfl | ⟨C, h⟩
  · intro p _ hp; simp at hp
  · exact h.free
theorem InvE.keys {l : List Nd} {f : Nat} (h : InvE l f) : Keys l := by
  rcases h.inv with rfl | ⟨C, h⟩
  · exact ⟨fun p hp => by simp at hp, fun p hp => by simp at hp, fun p q hp => by simp at hp⟩
  · exact h.keys
theorem InvE.small {l : List Nd} {f : Nat} (h : InvE l f) : l.length ≤ 65536 := by
  rcases h.inv with rfl | ⟨C, h⟩
  · simp
  · exact h.small.2
theorem noKey_of {l : List Nd} {f : Nat} (h : InvE l f) {k : Ky} (hk : l = [] ∨ ¬ KeyOk k) : NoKey l k := by
  rcases h.inv with rfl | ⟨C, h⟩
  · exact .inl rfl
  · have hs := h.small
    have hk2 : ¬ KeyOk k := by
      rcases hk with rfl | hk
      · simp at hs
      · exact hk
    refine .inr ⟨by omega, (mainOf k.f0 k.f1 k.f2 l.length).1, (mainOf k.f0 k.f1 k.f2 l.length).2, Main_eq (by omega), ?_⟩
    unfold mainOf
    by_cases h1 : okB k.f0 k.f1 k.f2 = true
    · rw [if_pos h1, if_pos h.pow]
      by_cases h2 : k.f0 = 0
      · rw [if_pos h2]; decide
      · exact absurd ⟨h1, h2⟩ hk2
    · rw [if_neg h1]; decide
open Classical in
/-- The search, as a function. -/
noncomputable def fndR (l : List Nd) (k : Ky) : Int × Int := if l = [] ∨ ¬ KeyOk k then (-1, 0) else (findL l k (l.length + 1) (hp l.length k) 1).getD (-1, 0)
theorem fndR_no {l : List Nd} {k : Ky} (h : l = [] ∨ ¬ KeyOk k) : fndR l k = (-1, 0) := if_pos h
theorem fndR_yes {l : List Nd} {k : Ky} (h : 1 ≤ l.length) (hk : KeyOk k) {x : Int × Int} (hf : findL l k (l.length + 1) (hp l.length k) 1 = some x) : fndR l k = x := by
  unfold fndR
  rw [if_neg (fun e => by
    rcases e with e | e
    · rw [e] at h; simp at h
    · exact e hk), hf]
  rfl
/-- The search, of any key: where it is (-1: nowhere), how many nodes are read; a key that is held is found. -/
structure Found (l : List Nd) (k : Ky) (at_ r : Int) : Prop where
  c : FindC l k at_ r
  fn : fndR l k = (at_, r)
  rd : 0 ≤ r ∧ r ≤ l.length
  at_ : (at_ = -1 ∧ ∀ p, p < l.length → (nd l p).f0.f0 ≠ 0 → (nd l p).f0 ≠ k) ∨ (KeyOk k ∧ 1 ≤ r ∧ ∃ p : Nat, at_ = p ∧ p < l.length ∧ (nd l p).f0 = k)
theorem Found.uniq {l : List Nd} {k : Ky} {a r a' r' : Int} (h : Found l k a r) (h' : Found l k a' r') : a = a' ∧ r = r' := by
  have := h.fn.symm.trans h'.fn
  simpa using this
theorem Found.lo {l : List Nd} {k : Ky} {at_ r : Int} (h : Found l k at_ r) : at_ = -1 ∨ ∃ p : Nat, at_ = p ∧ p < l.length := by
  rcases h.at_ with h1 | ⟨_, _, p, h1, h2, _⟩
  · exact .inl h1.1
  · exact .inr ⟨p, h1, h2⟩
theorem InvE.find {l : List Nd} {f : Nat} (h : InvE l f) (k : Ky) : ∃ at_ r, Found l k at_ r := by
  by_cases hk : l = [] ∨ ¬ KeyOk k
  · refine ⟨-1, 0, fun B g a cap f w hI => find_no hI k (noKey_of h hk), fndR_no hk, by omega, .inl ⟨rfl, fun p hp hn e => ?_⟩⟩
    rcases hk with rfl | hk
    · simp at hp
    · subst e
      exact hk ⟨h.keys.ok p hp hn, hn⟩
  · obtain ⟨hl, hko⟩ := not_or.1 hk
    have hko := Classical.not_not.1 hko
    rcases h.inv with rfl | ⟨C, hI⟩
    · exact absurd rfl hl
    · obtain ⟨at_, r, hf, h1, h2, h3⟩ := hI.find hko
      have hs := hI.small
      refine ⟨at_, r, fun B g a cap f w hP => find_call hP k (hp l.length k) (hp_main hI.pow hko) (by omega) _ at_ r hf, fndR_yes hs.1 hko hf, ⟨by omega, h2⟩, ?_⟩
      rcases h3 with ⟨p, A, B, h4, h5, h6, _⟩ | ⟨h4, h5⟩
      · exact .inr ⟨hko, h1, p, h6, h4, h5⟩
      · exact .inl ⟨h4, fun p hp _ => h5 p hp⟩
/-- A Put, of anything. -/
structure PutP (l : List Nd) (f : Nat) (k v : Ky) (l' : List Nd) (f' : Nat) (at_ r e : Int) : Prop where
  inv : InvE l' f'
  len : l'.length = l.length
  fle : f' ≤ f
  found : Found l k at_ r
  /-- not in form; Nil; held; Nil as a value; new -/
  ways : ((okB k.f0 k.f1 k.f2 = false ∨ okB v.f0 v.f1 v.f2 = false) ∧ e = 2 ∧ l' = l ∧ f' = f) ∨
    (okB k.f0 k.f1 k.f2 = true ∧ okB v.f0 v.f1 v.f2 = true ∧ ((k.f0 = 0 ∧ e = 9 ∧ l' = l ∧ f' = f) ∨ (k.f0 ≠ 0 ∧
      ((∃ p : Nat, at_ = p ∧ p < l.length ∧ (nd l p).f0 = k ∧ e = 0 ∧ l' = l.set p ⟨(nd l p).f0, v, (nd l p).f2⟩ ∧ f' = f) ∨
       (at_ = -1 ∧ v.f0 = 0 ∧ e = 0 ∧ l' = l ∧ f' = f) ∨
       (at_ = -1 ∧ v.f0 ≠ 0 ∧ ((e = 0 ∧ cnt l < l.length ∧ cnt l' = cnt l + 1 ∧ ∀ x u, x.f0 ≠ 0 → (has l' x u ↔ (x = k ∧ u = v) ∨ has l x u)) ∨ (e = 12 ∧ cnt l = l.length ∧ l' = l ∧ (f' = 0 ∨ l = []))))))))
/-- How many nodes Put tells. -/
def putR (k v : Ky) (r : Int) : Int := if okB k.f0 k.f1 k.f2 = true ∧ okB v.f0 v.f1 v.f2 = true ∧ k.f0 ≠ 0 then r else 0
def PutC (l : List Nd) (f : Nat) (k v : Ky) (l' : List Nd) (f' : Nat) (r e : Int) : Prop := ∀ (B g a cap : Nat) (w : World), IsP B g a cap l f w → B ≤ w.heap.size →
    Calls Try.prog 47 #[.pointer (some ⟨g, 0, none⟩), kv k, kv v] w fun x w' => x = .returned (.tuple #[.int .i64 (putR k v r), .int .i64 e]) ∧ IsP B g a cap l' f' w' ∧ Fr (fun k => k = g ∨ k = a) w w'
theorem nd_val {l : List Nd} {p : Nat} (v : Ky) (q : Nat) : (nd (l.set p ⟨(nd l p).f0, v, (nd l p).f2⟩) q).f0 = (nd l q).f0 ∧ (nd (l.set p ⟨(nd l p).f0, v, (nd l p).f2⟩) q).f2 = (nd l q).f2 := by
  rw [nd_set]
  by_cases h : p = q ∧ p < l.length
  · rw [if_pos h, ← h.1]; exact ⟨rfl, rfl⟩
  · rw [if_neg h]; exact ⟨rfl, rfl⟩
theorem Inv.setVal {l : List Nd} {f : Nat} {C : Nat → List Nat} (h : Inv l f C) {p : Nat} (hp1 : p < l.length) (hn : (nd l p).f0.f0 ≠ 0) (v : Ky) : Inv (l.set p ⟨(nd l p).f0, v, (nd l p).f2⟩) f C := by
  have hlen : (l.set p ⟨(nd l p).f0, v, (nd l p).f2⟩).length = l.length := List.length_set ..
  have hv := nd_val (l := l) (p := p) v
  refine ⟨by rw [hlen]; exact h.pow, by rw [hlen]; exact h.fle, fun q h1 h2 => ?_, fun q h1 h2 => ?_, fun q h1 h2 => ?_, fun q s h1 h2 h3 h4 => ?_, fun m q hq => ?_, fun q h1 h2 => ?_, h.head, h.nodup, fun m => ?_⟩
  · rw [hlen] at h2; rw [(hv q).1]; exact h.free q h1 h2
  · rw [hlen] at h1; rw [(hv q).1] at h2
    have hpq : p ≠ q := fun e => hn (e ▸ h2)
    rw [nd_ne _ _ hpq]; exact h.emp q h1 h2
  · rw [hlen] at h1; rw [(hv q).1] at h2 ⊢; exact h.ok q h1 h2
  · rw [hlen] at h1 h2; rw [(hv q).1] at h3 h4; rw [(hv s).1] at h4; exact h.dist q s h1 h2 h3 h4
  · rw [hlen, (hv q).1]; exact h.mem m q hq
  · rw [hlen] at h1 ⊢; rw [(hv q).1] at h2 ⊢; exact h.all q h1 h2
  · exact (h.link m).congr (fun q _ => (hv q).2)
theorem InvE.put {l : List Nd} {f : Nat} (h : InvE l f) (k v : Ky) : ∃ l' f' at_ r e, PutP l f k v l' f' at_ r e ∧ PutC l f k v l' f' r e := by
  obtain ⟨at_, r, hF⟩ := h.find k
  by_cases hform : okB k.f0 k.f1 k.f2 = true ∧ okB v.f0 v.f1 v.f2 = true
  · obtain ⟨hk, hv⟩ := hform
    by_cases hk0 : k.f0 = 0
    · refine ⟨l, f, at_, r, 9, ⟨h, rfl, Nat.le_refl _, hF, .inr ⟨hk, hv, .inl ⟨hk0, rfl, rfl, rfl⟩⟩⟩, fun B g a cap w hI hB => ?_⟩
      have hr : putR k v r = 0 := if_neg (fun e => e.2.2 hk0)
      rw [hr]
      exact (put_key hI k v hk hv hk0).mono fun x w' ⟨h1, h2⟩ => ⟨h1, hI.below h2, Fr.of_below h2⟩
    · have hr : putR k v r = r := if_pos ⟨hk, hv, hk0⟩
      have hko : KeyOk k := ⟨hk, hk0⟩
      rcases h.inv with hl | ⟨C, hI⟩
      · have hat : at_ = -1 ∧ r = 0 := by
          have h1 := hF.rd
          rcases hF.at_ with h2 | ⟨_, h2, p, _, h4, _⟩
          · rw [hl] at h1; exact ⟨h2.1, by simp at h1; omega⟩
          · rw [hl] at h4; simp at h4
        have hfl := h.fle
        have hno : NoKey l k := noKey_of h (.inl hl)
        have hlen0 : l.length = 0 := by rw [hl]; rfl
        by_cases hv0 : v.f0 = 0
        · refine ⟨l, f, at_, r, 0, ⟨h, rfl, Nat.le_refl _, hF, .inr ⟨hk, hv, .inr ⟨hk0, .inr (.inl ⟨hat.1, hv0, rfl, rfl, rfl⟩)⟩⟩⟩, fun B g a cap w hP hB => ?_⟩
          rw [hr, hat.2]
          exact (put_no hP k v hk hv hk0 hno 0 (by rw [if_pos hv0])).mono fun x w' ⟨h1, h2⟩ => ⟨h1, hP.below h2, Fr.of_below h2⟩
        · refine ⟨l, f, at_, r, 12, ⟨h, rfl, Nat.le_refl _, hF, .inr ⟨hk, hv, .inr ⟨hk0, .inr (.inr ⟨hat.1, hv0, .inr ⟨rfl, by rw [hl]; rfl, rfl, .inr hl⟩⟩)⟩⟩⟩, fun B g a cap w hP hB => ?_⟩
          rw [hr, hat.2]
          exact (put_no hP k v hk hv hk0 hno 12 (by rw [if_neg hv0])).mono fun x w' ⟨h1, h2⟩ => ⟨h1, hP.below h2, Fr.of_below h2⟩
      · obtain ⟨at2, r2, hf, h1, h2, h3⟩ := hI.find hko
        have hs := hI.small
        have hm := hp_main hI.pow hko
        have hml := hp_lt hI.pow k
        have hc : FindC l k at2 r2 := fun B g a cap f w hP => find_call hP k (hp l.length k) hm (by omega) _ at2 r2 hf
        have hr2 : putR k v r2 = r2 := if_pos ⟨hk, hv, hk0⟩
        rcases h3 with ⟨p, A, B, h4, h5, h6, _⟩ | ⟨h4, h5⟩
        · have hF2 : Found l k at2 r2 := ⟨hc, fndR_yes hs.1 hko hf, ⟨by omega, h2⟩, .inr ⟨hko, h1, p, h6, h4, h5⟩⟩
          refine ⟨_, f, at2, r2, 0, ⟨⟨by rw [List.length_set]; exact h.fle, .inr ⟨C, hI.setVal h4 (by rw [h5]; exact hk0) v⟩⟩, List.length_set .., Nat.le_refl _, hF2, .inr ⟨hk, hv, .inr ⟨hk0, .inl ⟨p, h6, h4, h5, rfl, rfl, rfl⟩⟩⟩⟩, fun B g a cap w hP hB => ?_⟩
          rw [hr2]
          exact put_call hP hB h.fle k v hk hv hk0 _ hm hml _ _ _ hf (.held p h4 h6)
        · have hF2 : Found l k at2 r2 := ⟨hc, fndR_yes hs.1 hko hf, ⟨by omega, h2⟩, .inl ⟨h4, fun p hp _ => h5 p hp⟩⟩
          by_cases hv0 : v.f0 = 0
          · refine ⟨l, f, at2, r2, 0, ⟨h, rfl, Nat.le_refl _, hF2, .inr ⟨hk, hv, .inr ⟨hk0, .inr (.inl ⟨h4, hv0, rfl, rfl, rfl⟩)⟩⟩⟩, fun B g a cap w hP hB => ?_⟩
            rw [hr2]
            exact put_call hP hB h.fle k v hk hv hk0 _ hm hml _ _ _ hf (.nil h4 hv0)
          · rcases hI.put (v := v) hko h5 with ⟨hc1, l', f', C', hins, hinv, hfl, hlen, hcnt, hhas⟩ | ⟨hc1, hins, hinv⟩
            · refine ⟨l', f', at2, r2, 0, ⟨⟨hinv.fle, .inr ⟨C', hinv⟩⟩, hlen, hfl, hF2, .inr ⟨hk, hv, .inr ⟨hk0, .inr (.inr ⟨h4, hv0, .inl ⟨rfl, hc1, hcnt, hhas⟩⟩)⟩⟩⟩, fun B g a cap w hP hB => ?_⟩
              rw [hr2]
              exact put_call hP hB h.fle k v hk hv hk0 _ hm hml _ _ _ hf (.new h4 hv0 _ _ _ hins)
            · refine ⟨l, 0, at2, r2, 12, ⟨⟨Nat.zero_le _, .inr ⟨C, hinv⟩⟩, rfl, Nat.zero_le _, hF2, .inr ⟨hk, hv, .inr ⟨hk0, .inr (.inr ⟨h4, hv0, .inr ⟨rfl, hc1, rfl, .inl rfl⟩⟩)⟩⟩⟩, fun B g a cap w hP hB => ?_⟩
              rw [hr2]
              exact put_call hP hB h.fle k v hk hv hk0 _ hm hml _ _ _ hf (.new h4 hv0 _ _ _ hins)
  · refine ⟨l, f, at_, r, 2, ⟨h, rfl, Nat.le_refl _, hF, .inl ⟨?_, rfl, rfl, rfl⟩⟩, fun B g a cap w hI hB => ?_⟩
    · by_cases hk : okB k.f0 k.f1 k.f2 = true
      · refine .inr ?_
        cases hv : okB v.f0 v.f1 v.f2 with
        | false => rfl
        | true => exact absurd ⟨hk, hv⟩ hform
      · refine .inl ?_
        cases hk2 : okB k.f0 k.f1 k.f2 with
        | false => rfl
        | true => exact absurd hk2 hk
    · have hr : putR k v r = 0 := if_neg (fun e => hform ⟨e.1, e.2.1⟩)
      rw [hr]
      refine (put_form hI k v ?_).mono fun x w' ⟨h1, h2⟩ => ⟨h1, hI.below h2, Fr.of_below h2⟩
      cases hk2 : okB k.f0 k.f1 k.f2 with
      | false => exact .inl rfl
      | true =>
        cases hv : okB v.f0 v.f1 v.f2 with
        | false => exact .inr rfl
        | true => exact absurd ⟨hk2, hv⟩ hform
end Go.Proofs.Ytlmmhlabacghnaa.PH
