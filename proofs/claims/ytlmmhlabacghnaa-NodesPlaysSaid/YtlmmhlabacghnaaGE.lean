import Derived.Test.YtlmmhlabacghnaaGD
import Derived.Deep.CutBlock
import Derived.Deep.RegionHeld3
import Derived.Deep.QuietTactic
import Derived.BigQuiet
import Derived.StillTailTactics
/- nodes: a Put, with the chains behind it, way by way. -/
namespace Go.Proofs.Ytlmmhlabacghnaa.PH
open Go.RowKit Go.Proofs.YtlmmhlabacghnaaW.PrintWords Go.Proofs.YtlmmhlabacghnaaW.PrintLast Go.Proofs.YtlmmhlabacghnaaW.PrintMore
open Go.Proofs.Ytlmmhlabacghnaa.HM
set_option linter.unusedVariables false
set_option linter.unusedSimpArgs false

/-- What holds of a part of any size and its chains. -/
structure InvC (l : List Nd) (f : Nat) (C : Nat → List Nat) : Prop where
  fle : f ≤ l.length
  inv : (l = [] ∧ ∀ j, C j = []) ∨ Inv l f C
theorem InvC.e {l : List Nd} {f : Nat} {C : Nat → List Nat} (h : InvC l f C) : InvE l f := ⟨h.fle, h.inv.elim (fun e => .inl e.1) (fun e => .inr ⟨C, e⟩)⟩
theorem InvC.mem {l : List Nd} {f : Nat} {C : Nat → List Nat} (h : InvC l f C) (j : Nat) : ∀ x ∈ C j, x < l.length := by
  rcases h.inv with ⟨_, e⟩ | h
  · intro x hx; rw [e j] at hx; simp at hx
  · exact fun x hx => (h.mem j x hx).1
theorem InvC.clen {l : List Nd} {f : Nat} {C : Nat → List Nat} (h : InvC l f C) (j : Nat) : (C j).length ≤ l.length := by
  rcases h.inv with ⟨e0, e⟩ | h
  · rw [e j]; simp
  · exact h.len j
/-- The ways of a Put, with the chains. -/
inductive StepC (l : List Nd) (f : Nat) (C : Nat → List Nat) (k v : Ky) (at_ : Int) : List Nd → Nat → (Nat → List Nat) → Int → Prop
  | form (h : okB k.f0 k.f1 k.f2 = false ∨ okB v.f0 v.f1 v.f2 = false) : StepC l f C k v at_ l f C 2
  | key (hk : okB k.f0 k.f1 k.f2 = true) (hv : okB v.f0 v.f1 v.f2 = true) (h0 : k.f0 = 0) : StepC l f C k v at_ l f C 9
  | held (hk : okB k.f0 k.f1 k.f2 = true) (hv : okB v.f0 v.f1 v.f2 = true) (h0 : k.f0 ≠ 0) (p : Nat) (ha : at_ = p) (hp : p < l.length) : StepC l f C k v at_ (l.set p ⟨(nd l p).f0, v, (nd l p).f2⟩) f C 0
  | nil (hk : okB k.f0 k.f1 k.f2 = true) (hv : okB v.f0 v.f1 v.f2 = true) (h0 : k.f0 ≠ 0) (ha : at_ = -1) (hv0 : v.f0 = 0) : StepC l f C k v at_ l f C 0
  | zero (hk : okB k.f0 k.f1 k.f2 = true) (hv : okB v.f0 v.f1 v.f2 = true) (h0 : k.f0 ≠ 0) (ha : at_ = -1) (hv0 : v.f0 ≠ 0) (hl : l = []) : StepC l f C k v at_ l f C 12
  | full (hk : okB k.f0 k.f1 k.f2 = true) (hv : okB v.f0 v.f1 v.f2 = true) (h0 : k.f0 ≠ 0) (ha : at_ = -1) (hv0 : v.f0 ≠ 0) (hI : Inv l f C) (hf : ∀ p, p < l.length → (nd l p).f0.f0 ≠ 0) : StepC l f C k v at_ l 0 C 12
  | step (hk : okB k.f0 k.f1 k.f2 = true) (hv : okB v.f0 v.f1 v.f2 = true) (h0 : k.f0 ≠ 0) (ha : at_ = -1) (hv0 : v.f0 ≠ 0) (hI : Inv l f C) {l' : List Nd} {f' : Nat} {C' : Nat → List Nat} (hs : Step l f C k v (hp l.length k) l' f' C') : StepC l f C k v at_ l' f' C' 0
theorem InvC.put {l : List Nd} {f : Nat} {C : Nat → List Nat} (h : InvC l f C) (k v : Ky) : ∃ l' f' C' at_ r e, InvC l' f' C' ∧ l'.length = l.length ∧ Found l k at_ r ∧ StepC l f C k v at_ l' f' C' e ∧ PutC l f k v l' f' r e := by
  obtain ⟨at_, r, hF⟩ := h.e.find k
  by_cases hform : okB k.f0 k.f1 k.f2 = true ∧ okB v.f0 v.f1 v.f2 = true
  · obtain ⟨hk, hv⟩ := hform
    by_cases hk0 : k.f0 = 0
    · refine ⟨l, f, C, at_, r, 9, h, rfl, hF, .key hk hv hk0, fun B g a cap w hI hB => ?_⟩
      have hr : putR k v r = 0 := if_neg (fun e => e.2.2 hk0)
      rw [hr]
      exact (put_key hI k v hk hv hk0).mono fun x w' ⟨h1, h2⟩ => ⟨h1, hI.below h2, Fr.of_below h2⟩
    · have hr : putR k v r = r := if_pos ⟨hk, hv, hk0⟩
      have hko : KeyOk k := ⟨hk, hk0⟩
      rcases h.inv with ⟨hl, hC⟩ | hI
      · have hat : at_ = -1 ∧ r = 0 := by
          have h1 := hF.rd
          rcases hF.at_ with h2 | ⟨_, h2, p, _, h4, _⟩
          · rw [hl] at h1; exact ⟨h2.1, by simp at h1; omega⟩
          · rw [hl] at h4; simp at h4
        have hno : NoKey l k := noKey_of h.e (.inl hl)
        by_cases hv0 : v.f0 = 0
        · refine ⟨l, f, C, at_, r, 0, h, rfl, hF, .nil hk hv hk0 hat.1 hv0, fun B g a cap w hP hB => ?_⟩
          rw [hr, hat.2]
          exact (put_no hP k v hk hv hk0 hno 0 (by rw [if_pos hv0])).mono fun x w' ⟨h1, h2⟩ => ⟨h1, hP.below h2, Fr.of_below h2⟩
        · refine ⟨l, f, C, at_, r, 12, h, rfl, hF, .zero hk hv hk0 hat.1 hv0 hl, fun B g a cap w hP hB => ?_⟩
          rw [hr, hat.2]
          exact (put_no hP k v hk hv hk0 hno 12 (by rw [if_neg hv0])).mono fun x w' ⟨h1, h2⟩ => ⟨h1, hP.below h2, Fr.of_below h2⟩
      · obtain ⟨at2, r2, hf, h1, h2, h3⟩ := hI.find hko
        have hs := hI.small
        have hm := hp_main hI.pow hko
        have hml := hp_lt hI.pow k
        have hc : FindC l k at2 r2 := fun B g a cap f w hP => find_call hP k (hp l.length k) hm (by omega) _ at2 r2 hf
        have hr2 : putR k v r2 = r2 := if_pos ⟨hk, hv, hk0⟩
        rcases h3 with ⟨p, A, B, h4, h5, h6, _⟩ | ⟨h4, h5⟩
        · have hF2 : Found l k at2 r2 := ⟨hc, fndR_yes hs.1 hko hf, ⟨by omega, h2⟩, .inr ⟨hko, h1, p, h6, h4, h5⟩⟩
          refine ⟨_, f, C, at2, r2, 0, ⟨by rw [List.length_set]; exact h.fle, .inr (hI.setVal h4 (by rw [h5]; exact hk0) v)⟩, List.length_set .., hF2, .held hk hv hk0 p h6 h4, fun B g a cap w hP hB => ?_⟩
          rw [hr2]
          exact put_call hP hB h.fle k v hk hv hk0 _ hm hml _ _ _ hf (.held p h4 h6)
        · have hF2 : Found l k at2 r2 := ⟨hc, fndR_yes hs.1 hko hf, ⟨by omega, h2⟩, .inl ⟨h4, fun p hp _ => h5 p hp⟩⟩
          by_cases hv0 : v.f0 = 0
          · refine ⟨l, f, C, at2, r2, 0, h, rfl, hF2, .nil hk hv hk0 h4 hv0, fun B g a cap w hP hB => ?_⟩
            rw [hr2]
            exact put_call hP hB h.fle k v hk hv hk0 _ hm hml _ _ _ hf (.nil h4 hv0)
          · rcases hI.put (v := v) hko h5 with ⟨hc1, l', f', C', hins, hinv, hfl, hlen, hcnt, hhas, hst⟩ | ⟨hc1, hins, hinv⟩
            · refine ⟨l', f', C', at2, r2, 0, ⟨hinv.fle, .inr hinv⟩, hlen, hF2, .step hk hv hk0 h4 hv0 hI hst, fun B g a cap w hP hB => ?_⟩
              rw [hr2]
              exact put_call hP hB h.fle k v hk hv hk0 _ hm hml _ _ _ hf (.new h4 hv0 _ _ _ hins)
            · refine ⟨l, 0, C, at2, r2, 12, ⟨Nat.zero_le _, .inr hinv⟩, rfl, hF2, .full hk hv hk0 h4 hv0 hI (cnt_full hc1), fun B g a cap w hP hB => ?_⟩
              rw [hr2]
              exact put_call hP hB h.fle k v hk hv hk0 _ hm hml _ _ _ hf (.new h4 hv0 _ _ _ hins)
  · refine ⟨l, f, C, at_, r, 2, h, rfl, hF, .form ?_, fun B g a cap w hI hB => ?_⟩
    · by_cases hk : okB k.f0 k.f1 k.f2 = true
      · refine .inr ?_
        cases hv : okB v.f0 v.f1 v.f2 with
        | false => rfl
        | true => exact absurd ⟨hk, hv⟩ hform
      · refine .inl ?_
        cases hk2 : okB k.f0 k.f1 k.f2 with
        | false => rfl
        | true => exact absurd hk2 hk
    · have hr : putR k v r = 0 := if_neg (fun e => hform ⟨e.1, e.2.1⟩)
      rw [hr]
      refine (put_form hI k v ?_).mono fun x w' ⟨h1, h2⟩ => ⟨h1, hI.below h2, Fr.of_below h2⟩
      cases hk2 : okB k.f0 k.f1 k.f2 with
      | false => exact .inl rfl
      | true =>
        cases hv : okB v.f0 v.f1 v.f2 with
        | false => exact .inr rfl
        | true => exact absurd ⟨hk2, hv⟩ hform
theorem zeros_invC {n : Nat} (h : RightN n) : InvC (List.replicate n zN) n (fun _ => []) := by
  have hlen : (List.replicate n zN).length = n := List.length_replicate
  refine ⟨by rw [hlen]; exact Nat.le_refl _, ?_⟩
  rcases h with h | h
  · refine .inl ⟨?_, fun _ => rfl⟩
    obtain rfl : n = 0 := by omega
    rfl
  · refine .inr ?_
    have hz : ∀ p, nd (List.replicate n zN) p = zN := fun p => by
      unfold nd
      rw [List.getD_eq_getElem?_getD, List.getElem?_replicate]
      by_cases hp : p < n
      · rw [if_pos hp]; rfl
      · rw [if_neg hp]; rfl
    have hz0 : ∀ p, (nd (List.replicate n zN) p).f0.f0 = 0 := fun p => by rw [hz]; rfl
    exact ⟨by rw [hlen]; exact h, by rw [hlen]; exact Nat.le_refl _, fun p h1 h2 => by rw [hlen] at h2; omega, fun p _ _ => hz p, fun p _ h2 => absurd (hz0 p) h2, fun p q _ _ h2 => absurd (hz0 p) h2, fun m p hp => by simp at hp, fun p _ h2 => absurd (hz0 p) h2, fun m => .inl rfl, fun m => List.nodup_nil, fun m => trivial⟩
end Go.Proofs.Ytlmmhlabacghnaa.PH
/- nodes: the reference's part in memory; key, Find, Get. -/
namespace Go.Proofs.Ytlmmhlabacghnaa.PH
open Go.RowKit Go.Proofs.YtlmmhlabacghnaaW.PrintWords Go.Proofs.YtlmmhlabacghnaaW.PrintLast Go.Proofs.YtlmmhlabacghnaaW.PrintMore
open Go.Proofs.Ytlmmhlabacghnaa.HM
set_option linter.unusedVariables false
set_option linter.unusedSimpArgs false

def kd (xs : List Ky) (j : Nat) : Ky := xs.getD j z30
/-- The cells of a key of a list that is read. -/
theorem at_kd {w : World} {A : Option Addr} {n : Nat} {xs : List Ky} (h : Kd.C k30 w A n xs) (i : Nat) (h1 : i < n) : ∃ ad, A = some ad ∧ w.cell? (ad.add (i * 3)) = some (.int .i64 (kd xs i).f0) ∧
    w.cell? ⟨(ad.add (i * 3)).block, (ad.add (i * 3)).off + 1, none⟩ = some (.int .i64 (kd xs i).f1) ∧ w.cell? ⟨(ad.add (i * 3)).block, (ad.add (i * 3)).off + 2, none⟩ = some (.string (kd xs i).f2) := by
  obtain ⟨ad, e, h0, h2, h3⟩ := at_T30 h (i : Int) (by omega) (by omega)
  rw [Int.toNat_natCast] at h0 h2 h3
  have hr : rd_T30 xs (i : Int) = kd xs i := by unfold rd_T30 kd; rw [Int.toNat_natCast]
  rw [hr] at h0 h2 h3
  exact ⟨ad, e, h0, h2, h3⟩
def ksOf (l : List Nd) : List Ky := l.map (fun x => x.f0)
def vsOf (l : List Nd) : List Ky := l.map (fun x => x.f1)
def csOf (N : Nat) (C : Nat → List Nat) : List (List Int) := (List.range N).map (fun j => (C j).map (fun x : Nat => (x : Int)))
theorem ksOf_len (l : List Nd) : (ksOf l).length = l.length := List.length_map ..
theorem vsOf_len (l : List Nd) : (vsOf l).length = l.length := List.length_map ..
theorem csOf_len (N : Nat) (C : Nat → List Nat) : (csOf N C).length = N := by simp [csOf]
theorem kd_ks (l : List Nd) (j : Nat) : kd (ksOf l) j = (nd l j).f0 := by
  unfold kd ksOf nd
  rw [List.getD_eq_getElem?_getD, List.getD_eq_getElem?_getD, List.getElem?_map]
  cases l[j]? <;> rfl
theorem kd_vs (l : List Nd) (j : Nat) : kd (vsOf l) j = (nd l j).f1 := by
  unfold kd vsOf nd
  rw [List.getD_eq_getElem?_getD, List.getD_eq_getElem?_getD, List.getElem?_map]
  cases l[j]? <;> rfl
theorem rd_cs (N : Nat) (C : Nat → List Nat) (j : Nat) (h : j < N) : rd_L4 (csOf N C) j = (C j).map (fun x : Nat => (x : Int)) := by
  unfold rd_L4 csOf
  rw [Int.toNat_natCast, List.getD_eq_getElem?_getD, List.getElem?_map, List.getElem?_range h]
  rfl
/-- The reference's part at block q: its keys at bk, its values at bv, its chains at bc. -/
structure IsR (B q bk bv bc ck cv cc : Nat) (l : List Nd) (f : Int) (C : Nat → List Nat) (w : World) : Prop where
  blk : w.heap[q]? = some (.cells #[.slice (some ⟨bk, 0, none⟩) l.length ck, .slice (some ⟨bv, 0, none⟩) l.length cv, .slice (some ⟨bc, 0, none⟩) l.length cc, .int .i64 f] 88 (0, 0))
  rk : Kd.R k30 30 w B (fun k => k = bk) (.slice (some ⟨bk, 0, none⟩) l.length ck) (ksOf l)
  rv : Kd.R k30 30 w B (fun k => k = bv) (.slice (some ⟨bv, 0, none⟩) l.length cv) (vsOf l)
  rc : Kd.S (Kd.slice 3 (Kd.int .i64)) 49 w B (fun k => k ≠ q ∧ k ≠ bk ∧ k ≠ bv) (.slice (some ⟨bc, 0, none⟩) l.length cc) (csOf l.length C)
  n1 : q ≠ bk
  n2 : q ≠ bv
  n3 : bk ≠ bv
  bq : B ≤ q
  len : l.length ≤ 65536
theorem IsR.below {B q bk bv bc ck cv cc : Nat} {l : List Nd} {f : Int} {C : Nat → List Nat} {w w' : World} (h : IsR B q bk bv bc ck cv cc l f C w) (hb : Below w.heap.size w w') : IsR B q bk bv bc ck cv cc l f C w' :=
  ⟨(hb.block q (Array.getElem?_eq_some_iff.1 h.blk).1).trans h.blk, Kd.R_below h.rk hb, Kd.R_below h.rv hb, Kd.S_below h.rc hb, h.n1, h.n2, h.n3, h.bq, h.len⟩
/-- What lies below B alone has changed. -/
theorem IsR.low {B q bk bv bc ck cv cc : Nat} {l : List Nd} {f : Int} {C : Nat → List Nat} {w w' : World} (h : IsR B q bk bv bc ck cv cc l f C w) (hm : ∀ k, B ≤ k → k < w.heap.size → w'.heap[k]? = w.heap[k]?) : IsR B q bk bv bc ck cv cc l f C w' :=
  ⟨(hm q h.bq (Array.getElem?_eq_some_iff.1 h.blk).1).trans h.blk, Kd.R_mono (Kd.R_step (Kd.R_bound h.rk) (fun k hk hlt => hm k hk.2.1 hlt)) (fun k hk => hk.1), Kd.R_mono (Kd.R_step (Kd.R_bound h.rv) (fun k hk hlt => hm k hk.2.1 hlt)) (fun k hk => hk.1), Kd.S_mono (Kd.S_step (Kd.S_bound h.rc) (fun k hk hlt => hm k hk.2.1 hlt)) (fun k hk => hk.1), h.n1, h.n2, h.n3, h.bq, h.len⟩
theorem four_of {w : World} {g : Nat} {x y z u : Value} {t : TypeId} (h : w.heap[g]? = some (.cells #[x, y, z, u] t (0, 0))) : w.cell? ⟨g, 0, none⟩ = some x ∧ w.cell? ⟨g, 1, none⟩ = some y ∧ w.cell? ⟨g, 2, none⟩ = some z ∧ w.cell? ⟨g, 3, none⟩ = some u ∧ w.frozen? ⟨g, 3, none⟩ = false :=
  ⟨(blk_cell h 0).trans rfl, (blk_cell h 1).trans rfl, (blk_cell h 2).trans rfl, (blk_cell h 3).trans rfl, blk_frozen h 3⟩
theorem add_blk (b m : Nat) : (⟨b, 0, none⟩ : Addr).add m = ⟨b, m, none⟩ := by
  unfold Addr.add
  by_cases hz : m = 0
  · rw [if_pos hz, hz]
  · rw [if_neg hz]; simp
theorem IsR.key {B q bk bv bc ck cv cc : Nat} {l : List Nd} {f : Int} {C : Nat → List Nat} {w : World} (h : IsR B q bk bv bc ck cv cc l f C w) (j : Nat) (hj : j < l.length) :
    w.cell? ⟨bk, j * 3, none⟩ = some (.int .i64 (nd l j).f0.f0) ∧ w.cell? ⟨bk, j * 3 + 1, none⟩ = some (.int .i64 (nd l j).f0.f1) ∧ w.cell? ⟨bk, j * 3 + 2, none⟩ = some (.string (nd l j).f0.f2) := by
  obtain ⟨ad, e, q0, q1, q2⟩ := at_kd (Kd.R_reads' h.rk).2.2 j (by rw [ksOf_len]; exact hj)
  obtain rfl := Option.some.inj e
  rw [add_blk, kd_ks] at q0 q1 q2
  exact ⟨q0, q1, q2⟩
theorem IsR.val {B q bk bv bc ck cv cc : Nat} {l : List Nd} {f : Int} {C : Nat → List Nat} {w : World} (h : IsR B q bk bv bc ck cv cc l f C w) (j : Nat) (hj : j < l.length) :
    w.cell? ⟨bv, j * 3, none⟩ = some (.int .i64 (nd l j).f1.f0) ∧ w.cell? ⟨bv, j * 3 + 1, none⟩ = some (.int .i64 (nd l j).f1.f1) ∧ w.cell? ⟨bv, j * 3 + 2, none⟩ = some (.string (nd l j).f1.f2) := by
  obtain ⟨ad, e, q0, q1, q2⟩ := at_kd (Kd.R_reads' h.rv).2.2 j (by rw [vsOf_len]; exact hj)
  obtain rfl := Option.some.inj e
  rw [add_blk, kd_vs] at q0 q1 q2
  exact ⟨q0, q1, q2⟩
/-- A chain: its cell, its numbers. -/
theorem IsR.chain {B q bk bv bc ck cv cc : Nat} {l : List Nd} {f : Int} {C : Nat → List Nat} {w : World} (h : IsR B q bk bv bc ck cv cc l f C w) (j : Nat) (hj : j < l.length) :
    ∃ A c, w.cell? ⟨bc, j, none⟩ = some (.slice A (C j).length c) ∧ Kd.C (Kd.int .i64) w A (C j).length ((C j).map (fun x : Nat => (x : Int))) := by
  have hC := (Kd.S_reads' h.rc).2.2
  obtain ⟨ad, A, c, e, q0, _, q1⟩ := at_L4 hC (j : Int) (by omega) (by rw [csOf_len]; omega)
  obtain rfl := Option.some.inj e
  rw [rd_cs l.length C j hj, List.length_map] at q0 q1
  rw [Int.toNat_natCast, add_blk] at q0
  exact ⟨A, c, q0, q1⟩
/-- A number of a list that is read. -/
theorem at_int {w : World} {A : Option Addr} {n : Nat} {C : List Nat} (h : Kd.C (Kd.int .i64) w A n (C.map (fun x : Nat => (x : Int)))) (i : Nat) (h1 : i < n) : ∃ ad, A = some ad ∧ w.cell? (ad.add i) = some (.int .i64 (C.getD i 0 : Nat)) := by
  obtain ⟨ad, c, e, _, hK, hc0⟩ := Kd.C_get h (0 : Int) (i : Int) (by omega) (by omega)
  rw [Int.toNat_natCast] at hK hc0
  have hk : c = [.int .i64 ((C.map (fun x : Nat => (x : Int))).getD i 0)] := hK
  subst hk
  have hc := hc0 0 _ rfl
  refine ⟨ad, e, ?_⟩
  have e1 : i * (Kd.int .i64).sz + 0 = i := by show i * 1 + 0 = i; omega
  rw [e1] at hc
  rw [hc]
  congr 2
  rw [List.getD_eq_getElem?_getD, List.getD_eq_getElem?_getD, List.getElem?_map]
  cases C[i]? <;> rfl
end Go.Proofs.Ytlmmhlabacghnaa.PH
/- nodes: the reference's key, Find, Get. -/
namespace Go.Proofs.Ytlmmhlabacghnaa.PH
open Go.RowKit Go.Proofs.YtlmmhlabacghnaaW.PrintWords Go.Proofs.YtlmmhlabacghnaaW.PrintLast Go.Proofs.YtlmmhlabacghnaaW.PrintMore
open Go.Proofs.Ytlmmhlabacghnaa.HM
set_option linter.unusedVariables false
set_option linter.unusedSimpArgs false

set_option maxHeartbeats 4000000 in
set_option maxRecDepth 100000 in
theorem rkey_yes {B q bk bv bc ck cv cc : Nat} {l : List Nd} {f : Int} {C : Nat → List Nat} {w : World} (h : IsR B q bk bv bc ck cv cc l f C w) (k : Ky) (hl : 0 < l.length) (hk : KeyOk k) :
    Calls Try.prog 83 #[.pointer (some ⟨q, 0, none⟩), kv k] w fun e w' => e = .returned (.bool true) ∧ Below w.heap.size w w' := by
  unfold kv
  have H := Lib.hid h
  have HK := Lib.hid hk
  have d1 : decide ((l.length : Int) > 0) = true := decide_eq_true (by omega)
  have d2 : decide (0 < (l.length : Int)) = true := decide_eq_true (by omega)
  have d3 : decide (0 < l.length) = true := decide_eq_true hl
  have hk1 : (k.f0 == 0) = false := beq_eq_false_iff_ne.2 hk.2
  have hk2 : (k.f0 != 0) = true := bne_iff_ne.2 hk.2
  obtain ⟨x0, x1, x2, x3, _⟩ := four_of h.blk
  have y0 := alloc_cell x0 (.cells #[.int .i64 k.f0, .int .i64 k.f1, .string k.f2] 30)
  clear h hk x0 x1 x2 x3
  go_enter Try.func83, Try.ntmps83
  go_wp2_with fail
  obtain ⟨w1, hw1, hb1, hk3, hs1⟩ : ∃ w1, w.alloc (.cells #[.int .i64 k.f0, .int .i64 k.f1, .string k.f2] 30) = w1 ∧ Below w.heap.size w w1 ∧ w1.heap[w.heap.size]? = some (.cells #[.int .i64 k.f0, .int .i64 k.f1, .string k.f2] 30 (0, 0)) ∧ w1.heap.size = w.heap.size + 1 :=
    ⟨_, rfl, (Below.refl _ _).alloc (Nat.le_refl _) _, heap_alloc_new _ _, by simp⟩
  rw [hw1]
  have K3 := Lib.hid hk3
  have B1 := Lib.hid (And.intro hb1 hs1)
  clear hk3 hb1 hs1 hw1 y0
  refine (trestleref03_Check.calls k.f0 k.f1 k.f2 0 _ (by unfold trestleref03_Check.f okN; rw [if_pos HK.out.1])).mono ?_
  rintro e w2 ⟨rfl, hb2⟩
  obtain ⟨m0, m1, m2⟩ := three_of ((hb2.block w.heap.size (by have := B1.out.2; omega)).trans K3.out)
  have B2 := Lib.hid (B1.out.1.trans (hb2.mono B1.out.1.size))
  clear hb2
  go_wp2_with fail
  go_ret
  exact ⟨rfl, B2.out⟩
set_option maxHeartbeats 4000000 in
set_option maxRecDepth 100000 in
theorem rkey_zero {B q bk bv bc ck cv cc : Nat} {l : List Nd} {f : Int} {C : Nat → List Nat} {w : World} (h : IsR B q bk bv bc ck cv cc l f C w) (k : Ky) (hl : l.length = 0) :
    Calls Try.prog 83 #[.pointer (some ⟨q, 0, none⟩), kv k] w fun e w' => e = .returned (.bool false) ∧ Below w.heap.size w w' := by
  unfold kv
  have d1 : decide ((l.length : Int) > 0) = false := decide_eq_false (by omega)
  have d2 : decide (0 < (l.length : Int)) = false := decide_eq_false (by omega)
  have d3 : decide (0 < l.length) = false := decide_eq_false (by omega)
  clear hl
  obtain ⟨x0, x1, x2, x3, _⟩ := four_of h.blk
  have y0 := alloc_cell x0 (.cells #[.int .i64 k.f0, .int .i64 k.f1, .string k.f2] 30)
  clear h x0 x1 x2 x3
  go_enter Try.func83, Try.ntmps83
  go_wp2_with fail
  go_ret
  exact ⟨rfl, (Below.refl _ _).alloc (Nat.le_refl _) _⟩
set_option maxHeartbeats 4000000 in
set_option maxRecDepth 100000 in
theorem rkey_no {B q bk bv bc ck cv cc : Nat} {l : List Nd} {f : Int} {C : Nat → List Nat} {w : World} (h : IsR B q bk bv bc ck cv cc l f C w) (k : Ky) (hl : 0 < l.length) (hk : ¬ KeyOk k) :
    Calls Try.prog 83 #[.pointer (some ⟨q, 0, none⟩), kv k] w fun e w' => e = .returned (.bool false) ∧ Below w.heap.size w w' := by
  unfold kv
  have HK := Lib.hid hk
  have d1 : decide ((l.length : Int) > 0) = true := decide_eq_true (by omega)
  have d2 : decide (0 < (l.length : Int)) = true := decide_eq_true (by omega)
  have d3 : decide (0 < l.length) = true := decide_eq_true hl
  clear hk
  obtain ⟨x0, x1, x2, x3, _⟩ := four_of h.blk
  have y0 := alloc_cell x0 (.cells #[.int .i64 k.f0, .int .i64 k.f1, .string k.f2] 30)
  clear h x0 x1 x2 x3
  go_enter Try.func83, Try.ntmps83
  go_wp2_with fail
  obtain ⟨w1, hw1, hb1, hk3, hs1⟩ : ∃ w1, w.alloc (.cells #[.int .i64 k.f0, .int .i64 k.f1, .string k.f2] 30) = w1 ∧ Below w.heap.size w w1 ∧ w1.heap[w.heap.size]? = some (.cells #[.int .i64 k.f0, .int .i64 k.f1, .string k.f2] 30 (0, 0)) ∧ w1.heap.size = w.heap.size + 1 :=
    ⟨_, rfl, (Below.refl _ _).alloc (Nat.le_refl _) _, heap_alloc_new _ _, by simp⟩
  rw [hw1]
  have K3 := Lib.hid hk3
  have B1 := Lib.hid (And.intro hb1 hs1)
  clear hk3 hb1 hs1 hw1 y0
  by_cases hok : okB k.f0 k.f1 k.f2 = true
  · have h0 : k.f0 = 0 := Classical.byContradiction fun e => HK.out ⟨hok, e⟩
    have HO := Lib.hid (And.intro hok h0)
    clear hok h0
    refine (trestleref03_Check.calls k.f0 k.f1 k.f2 0 _ (by unfold trestleref03_Check.f okN; rw [if_pos HO.out.1])).mono ?_
    rintro e w2 ⟨rfl, hb2⟩
    obtain ⟨m0, m1, m2⟩ := three_of ((hb2.block w.heap.size (by have := B1.out.2; omega)).trans K3.out)
    have B2 := Lib.hid (B1.out.1.trans (hb2.mono B1.out.1.size))
    rw [HO.out.2] at m0
    clear hb2
    go_wp2_with fail
    go_ret
    exact ⟨rfl, B2.out⟩
  · have HO := Lib.hid hok
    clear hok
    refine (trestleref03_Check.calls k.f0 k.f1 k.f2 2 _ (by unfold trestleref03_Check.f okN; rw [if_neg HO.out])).mono ?_
    rintro e w2 ⟨rfl, hb2⟩
    have B2 := Lib.hid (B1.out.1.trans (hb2.mono B1.out.1.size))
    clear hb2
    go_wp2_with fail
    go_ret
    exact ⟨rfl, B2.out⟩
theorem place_call (k : Ky) (N : Nat) (hN : Pow N) (hk : KeyOk k) (w : World) : Calls Try.prog 68 #[kv k, .int .i64 N] w fun e w' => e = .returned (.int .i64 (hp N k : Nat)) ∧ Below w.heap.size w w' := by
  have h2 := plc_range (kd := k.f0) (n := k.f1) (s := k.f2) hN
  have e : plc k.f0 k.f1 k.f2 N = ((hp N k : Nat) : Int) := by
    unfold hp
    omega
  have hok := hk.1
  have h3 : k.f0 = 3 → k.f2.size ≤ 10000 := fun h3 => by
    unfold okB at hok
    rw [if_neg (by omega), if_neg (by omega), if_neg (by omega), if_pos h3] at hok
    simp at hok
    omega
  have h1 : k.f0 = 1 → k.f1 = 0 ∨ k.f1 = 1 := fun h1 => by
    unfold okB at hok
    rw [if_neg (by omega), if_pos h1] at hok
    simp at hok
    exact hok.1
  have hp2 := place_eq (n := k.f1) (s := k.f2) hN h3 h1 10002 (by omega)
  rw [e] at hp2
  exact trestleref04_Place.calls 10002 _ _ _ _ _ w hp2
/-- The reference's search along a chain. -/
def refL (l : List Nd) (k : Ky) (m : Nat) : List Nat → Bool → Int → Int × Int
  | [], _, r => (-1, r)
  | p :: t, on, r => if (on || p == m) = true then (if eqk (nd l p).f0 k = true then ((p : Int), r + 1) else refL l k m t true (r + 1)) else refL l k m t false r
theorem refL_on (l : List Nd) (k : Ky) (m : Nat) : ∀ (t : List Nat) (p : Nat) (r : Int), refL l k m (p :: t) true r = srch l k (p :: t) (r + 1)
  | [], p, r => by
    unfold refL srch refL
    rw [Bool.true_or, if_pos rfl]
  | b :: t, p, r => by
    unfold refL srch
    rw [Bool.true_or, if_pos rfl]
    simp only
    rw [refL_on l k m t b (r + 1)]
theorem refL_off (l : List Nd) (k : Ky) (m : Nat) (B : List Nat) : ∀ (A : List Nat), m ∉ A → refL l k m (A ++ m :: B) false 0 = srch l k (m :: B) 1
  | [], _ => by
    have h := refL_on l k m B m 0
    rw [← show (0 : Int) + 1 = 1 from rfl, ← h]
    show refL l k m (m :: B) false 0 = _
    unfold refL
    rw [Bool.false_or, Bool.true_or, beq_self_eq_true]
  | a :: A, h => by
    have ha : (a == m) = false := beq_eq_false_iff_ne.2 (fun e => h (by rw [e]; simp))
    show refL l k m (a :: (A ++ m :: B)) false 0 = _
    unfold refL
    rw [Bool.false_or, ha, if_neg Bool.false_ne_true]
    exact refL_off l k m B A (fun hm => h (List.mem_cons_of_mem _ hm))
/-- The search is the reference's. -/
theorem fndR_ref {l : List Nd} {f : Nat} {C : Nat → List Nat} (h : Inv l f C) {k : Ky} (hk : KeyOk k) (hn : (nd l (hp l.length k)).f0.f0 ≠ 0) :
    fndR l k = refL l k (hp l.length k) (C (hp l.length (nd l (hp l.length k)).f0)) false 0 := by
  have hs := h.small
  obtain ⟨m, hm⟩ : ∃ m, hp l.length k = m := ⟨_, rfl⟩
  have hml : m < l.length := hm ▸ hp_lt h.pow k
  rw [hm] at hn ⊢
  have hmo := h.all m hml hn
  obtain ⟨A, B, hAB⟩ := List.append_of_mem hmo
  have hlk := h.link (hp l.length (nd l m).f0)
  have hnd := h.nodup (hp l.length (nd l m).f0)
  have hlen := h.len (hp l.length (nd l m).f0)
  have hmem : ∀ x ∈ m :: B, x < l.length := fun x hx => (h.mem _ x (by rw [hAB]; exact List.mem_append.2 (.inr hx))).1
  rw [hAB] at hlk hnd hlen
  rw [List.length_append, List.length_cons] at hlen
  have hf := find_chain l k hs.2 B m 1 (l.length + 1) (Linked.suffix A hlk) hmem (List.nodup_append.1 hnd).2.1 (by omega) (by omega) (by omega)
  have hA : m ∉ A := fun hx => (List.nodup_append.1 hnd).2.2 m hx m (by simp) rfl
  rw [fndR_yes hs.1 hk (by rw [hm]; exact hf), hAB, refL_off l k m B A hA]
theorem fndR_nil {l : List Nd} {f : Nat} {C : Nat → List Nat} (h : Inv l f C) {k : Ky} (hk : KeyOk k) (hn : (nd l (hp l.length k)).f0.f0 = 0) : fndR l k = (-1, 1) := by
  have hml := hp_lt h.pow k
  have hz : (nd l (hp l.length k)).f2 = 0 := by rw [h.emp _ hml hn]; rfl
  refine fndR_yes h.small.1 hk ?_
  unfold findL
  rw [if_pos hml, if_neg (fun e => hk.2 (by rw [← eqk_iff.1 e]; exact hn)), if_pos hz]
end Go.Proofs.Ytlmmhlabacghnaa.PH
/- nodes: the reference's Find, Get. -/
namespace Go.Proofs.Ytlmmhlabacghnaa.PH
open Go.RowKit Go.Proofs.YtlmmhlabacghnaaW.PrintWords Go.Proofs.YtlmmhlabacghnaaW.PrintLast Go.Proofs.YtlmmhlabacghnaaW.PrintMore
open Go.Proofs.Ytlmmhlabacghnaa.HM
set_option linter.unusedVariables false
set_option linter.unusedSimpArgs false

theorem cellB {w w' : World} {p : Addr} {v : Value} (hb : Below w.drew.heap.size w.drew w') (h : w.cell? p = some v) : w'.cell? p = some v :=
  (hb.cell (p := p) (World.block_lt_of_cell? w _ h)).trans h
set_option maxHeartbeats 4000000 in
set_option maxRecDepth 100000 in
theorem rfind_no {B q bk bv bc ck cv cc : Nat} {l : List Nd} {f : Int} {C : Nat → List Nat} {w : World} (h : IsR B q bk bv bc ck cv cc l f C w) (k : Ky) (hk : l = [] ∨ ¬ KeyOk k) :
    Calls Try.prog 61 #[.pointer (some ⟨q, 0, none⟩), kv k] w fun e w' => e = .returned (.tuple #[.int .i64 (-1), .int .i64 0]) ∧ Below w.heap.size w w' := by
  have hx : ∀ w1, IsR B q bk bv bc ck cv cc l f C w1 → Calls Try.prog 83 #[.pointer (some ⟨q, 0, none⟩), kv k] w1 fun e w' => e = .returned (.bool false) ∧ Below w1.heap.size w1 w' := fun w1 h1 => by
    by_cases hl : l.length = 0
    · exact rkey_zero h1 k hl
    · refine rkey_no h1 k (by omega) (hk.resolve_left (fun e => hl (by rw [e]; rfl)))
  unfold kv
  have H := Lib.hid (And.intro h hx)
  clear h hx hk
  go_enter Try.func61, Try.ntmps61
  go_wp2_with fail
  obtain ⟨w1, hw1, hb1⟩ : ∃ w1, w.alloc (.cells #[.int .i64 k.f0, .int .i64 k.f1, .string k.f2] 30) = w1 ∧ Below w.heap.size w w1 := ⟨_, rfl, (Below.refl _ _).alloc (Nat.le_refl _) _⟩
  rw [hw1]
  have hx := H.out.2 w1 (H.out.1.below hb1)
  unfold kv at hx
  refine hx.mono ?_
  rintro e w2 ⟨rfl, hb2⟩
  have B2 := Lib.hid (hb1.trans (hb2.mono hb1.size))
  clear hx hw1 hb1 hb2
  go_wp2_with fail
  go_ret2
  exact ⟨rfl, B2.out⟩

set_option maxHeartbeats 8000000 in
set_option maxRecDepth 100000 in
theorem rfind_yes {B q bk bv bc ck cv cc : Nat} {l : List Nd} {f : Int} {C : Nat → List Nat} {w : World} {f0 : Nat} (h : IsR B q bk bv bc ck cv cc l f C w) (hI : Inv l f0 C) (k : Ky) (hk : KeyOk k) (at_ r : Int) (hf : fndR l k = (at_, r)) :
    Calls Try.prog 61 #[.pointer (some ⟨q, 0, none⟩), kv k] w fun e w' => e = .returned (.tuple #[.int .i64 at_, .int .i64 r]) ∧ Below w.heap.size w w' := by
  unfold kv
  have hml := hp_lt hI.pow k
  have hs := hI.small
  have H := Lib.hid (And.intro h (And.intro hI (And.intro hk hf)))
  obtain ⟨m, hm⟩ : ∃ m, hp l.length k = m := ⟨_, rfl⟩
  rw [hm] at hml
  have HM := Lib.hid (And.intro hm hml)
  have hm5 : (m : Int) ≤ 65536 := by omega
  have p1 : 0 ≤ (m : Int) := by omega
  have p2 : (m : Int) < (l.length : Int) := by omega
  replace p1 := eq_true p1
  replace p2 := eq_true p2
  have hmx : Try.prog.follows .mixedOrders = true := by kernel_rfl
  clear h hI hk hf hm hml
  go_enter Try.func61, Try.ntmps61
  go_wp2_with fail
  obtain ⟨w1, hw1, hb1, hk1⟩ : ∃ w1, w.alloc (.cells #[.int .i64 k.f0, .int .i64 k.f1, .string k.f2] 30) = w1 ∧ Below w.heap.size w w1 ∧ w1.heap[w.heap.size]? = some (.cells #[.int .i64 k.f0, .int .i64 k.f1, .string k.f2] 30 (0, 0)) := ⟨_, rfl, (Below.refl _ _).alloc (Nat.le_refl _) _, heap_alloc_new _ _⟩
  rw [hw1]
  have hx := rkey_yes (H.out.1.below hb1) k (by omega) H.out.2.2.1
  unfold kv at hx
  refine hx.mono ?_
  rintro e w2 ⟨rfl, hb2⟩
  have B2 := Lib.hid (hb1.trans (hb2.mono hb1.size))
  have R2 := Lib.hid ((H.out.1.below hb1).below hb2)
  have K2 := Lib.hid ((hb2.block w.heap.size (Array.getElem?_eq_some_iff.1 hk1).1).trans hk1)
  clear hx hw1 hb1 hb2 hk1
  obtain ⟨x0, x1, x2, x3, _⟩ := four_of R2.out.blk
  obtain ⟨n0, n1, n2⟩ := three_of K2.out
  go_wp2_with fail
  go_still_tail 6, (by kernel_rfl)
  change wpList _ _ _ _ _ w2.drew
  have hx := place_call k l.length H.out.2.1.pow H.out.2.2.1 w2.drew
  unfold kv at hx
  rw [HM.out.1] at hx
  go_wp2_with fail
  refine hx.mono ?_
  rintro e w3 ⟨rfl, hb3⟩
  have B3 := Lib.hid (B2.out.trans (((Below.refl _ _).drew.trans hb3).mono B2.out.size))
  have R3 := Lib.hid (R2.out.below ((Below.refl _ _).drew.trans hb3))
  have K3 := Lib.hid ((hb3.block w.heap.size (Array.getElem?_eq_some_iff.1 K2.out).1).trans K2.out)
  clear hx hb3 x0 x1 x2 x3 n0 n1 n2 R2 K2 B2
  obtain ⟨x0, x1, x2, x3, _⟩ := four_of R3.out.blk
  obtain ⟨e0, e1, e2⟩ := R3.out.key m HM.out.2
  by_cases hz : (nd l m).f0.f0 = 0
  · have hfr := fndR_nil H.out.2.1 H.out.2.2.1 (by rw [HM.out.1]; exact hz)
    have hF := H.out.2.2.2
    rw [hfr] at hF
    simp only [Prod.mk.injEq] at hF
    obtain ⟨rfl, rfl⟩ := hF
    rw [hz] at e0
    clear hz hfr
    go_wp2_with fail
    go_ret2
    exact ⟨rfl, B3.out⟩
  · have hz1 : ((nd l m).f0.f0 == 0) = false := beq_eq_false_iff_ne.2 hz
    have hko := H.out.2.1.key HM.out.2 hz
    have hfr := fndR_ref H.out.2.1 H.out.2.2.1 (by rw [HM.out.1]; exact hz)
    rw [HM.out.1, H.out.2.2.2] at hfr
    obtain ⟨o, ho⟩ : ∃ o, hp l.length (nd l m).f0 = o := ⟨_, rfl⟩
    rw [ho] at hfr
    have hol : o < l.length := ho ▸ hp_lt H.out.2.1.pow (nd l m).f0
    have hcl := H.out.2.1.len o
    have HO := Lib.hid (And.intro ho (And.intro hol (And.intro hko hfr)))
    have ho5 : (o : Int) ≤ 65536 := by omega
    have s1 : 0 ≤ (o : Int) := by omega
    have s2 : (o : Int) < (l.length : Int) := by omega
    replace s1 := eq_true s1
    replace s2 := eq_true s2
    clear hz hko hfr ho hol
    obtain ⟨Ac, cx, c0, hC3⟩ := R3.out.chain o HO.out.2.1
    have hx := place_call (nd l m).f0 l.length H.out.2.1.pow HO.out.2.2.1 w3.drew
    unfold kv at hx
    rw [HO.out.1] at hx
    go_wp2_with fail
    go_region_held3 (fun w' => w'.cell? ⟨q, 0, none⟩ = some (.slice (some ⟨bk, 0, none⟩) l.length ck) ∧ w'.cell? ⟨q, 2, none⟩ = some (.slice (some ⟨bc, 0, none⟩) l.length cc) ∧ w'.cell? ⟨bk, m * 3, none⟩ = some (.int .i64 (nd l m).f0.f0) ∧ w'.cell? ⟨bk, m * 3 + 1, none⟩ = some (.int .i64 (nd l m).f0.f1) ∧ w'.cell? ⟨bk, m * 3 + 2, none⟩ = some (.string (nd l m).f0.f2) ∧ w'.cell? ⟨bc, o, none⟩ = some (.slice Ac (C o).length cx))
      (first | exact ⟨cellB hb4 x0, cellB hb4 x2, cellB hb4 e0, cellB hb4 e1, cellB hb4 e2, cellB hb4 c0⟩ | go_keep)
      (first | (go_at_call 68; refine hx.mono ?_; rintro e w4 ⟨rfl, hb4⟩))
    have B4 := Lib.hid (B3.out.trans (((Below.refl _ _).drew.trans hb4).mono B3.out.size))
    have R4 := Lib.hid (R3.out.below ((Below.refl _ _).drew.trans hb4))
    have K4 := Lib.hid ((hb4.block w.heap.size (Array.getElem?_eq_some_iff.1 K3.out).1).trans K3.out)
    have C4 := Lib.hid (Kd.C_below hC3 ((Below.refl _ _).drew.trans hb4))
    clear hx hb4 x0 x1 x2 x3 e0 e1 e2 c0 hC3 R3 K3 B3
    have hcl5 : ((C o).length : Int) ≤ 65536 := by omega
    go_wp2_with fail
    go_loopg [8, 9, 10] (C o).length (fun kq v8 v9 v10 wr => ∃ (X T : List Nat) (on : Bool) (rd : Nat), v10 = .int .i64 X.length ∧ v9 = .bool on ∧ v8 = .int .i64 rd ∧ rd ≤ X.length ∧ kq = T.length ∧ RowKit.Hid (C o = X ++ T ∧ refL l k m T on rd = (at_, r)) ∧ RowKit.Hid (Below w.heap.size w wr) ∧ RowKit.Hid (IsR B q bk bv bc ck cv cc l f C wr) ∧ RowKit.Hid (wr.heap[w.heap.size]? = some (.cells #[.int .i64 k.f0, .int .i64 k.f1, .string k.f2] 30 (0, 0))) ∧ RowKit.Hid (Kd.C (Kd.int .i64) wr Ac (C o).length ((C o).map (fun x : Nat => (x : Int)))))
    case atStart => exact ⟨[], C o, false, 0, rfl, rfl, rfl, Nat.le_refl _, rfl, Lib.hid ⟨rfl, HO.out.2.2.2.symm⟩, B4, R4, K4, C4⟩
    case round =>
      clear B4 R4 K4 C4
      obtain ⟨X, T, on, rd, rfl, rfl, rfl, hrX, hkq, hT, hB, hR, hK, hC⟩ := hrel
      have hlenT : (C o).length = X.length + T.length := by rw [hT.out.1, List.length_append]
      cases T with
      | nil =>
        have d1 : decide (X.length < (C o).length) = false := decide_eq_false (by simp at hlenT; omega)
        have d2 : decide ((X.length : Int) < ((C o).length : Int)) = false := decide_eq_false (by simp at hlenT; omega)
        have hres := hT.out.2
        unfold refL at hres
        simp only [Prod.mk.injEq] at hres
        obtain ⟨rfl, rfl⟩ := hres
        clear hlenT hkq
        go_wp2_with fail
        go_ret2
        exact ⟨rfl, hB.out⟩
      | cons p T2 =>
        rw [List.length_cons] at hlenT hkq
        have d1 : decide (X.length < (C o).length) = true := decide_eq_true (by omega)
        have d2 : decide ((X.length : Int) < ((C o).length : Int)) = true := decide_eq_true (by omega)
        have hX5 : (X.length : Int) ≤ 65536 := by omega
        have hrd5 : (rd : Int) ≤ 65536 := by omega
        have t1 : 0 ≤ (X.length : Int) := by omega
        have t2 : (X.length : Int) < ((C o).length : Int) := by omega
        replace t1 := eq_true t1
        replace t2 := eq_true t2
        obtain ⟨ad, hA, c0⟩ := at_int hC.out X.length (by omega)
        have hget : (C o).getD X.length 0 = p := by
          rw [hT.out.1, List.getD_eq_getElem?_getD, List.getElem?_append_right (Nat.le_refl _)]
          simp
        rw [hget] at c0
        subst hA
        have hpl := (H.out.2.1.mem o p (by rw [hT.out.1]; simp)).1
        have hp5 : (p : Int) ≤ 65536 := by omega
        have u1_ : 0 ≤ (p : Int) := by omega
        have u2_ : (p : Int) < (l.length : Int) := by omega
        replace u1_ := eq_true u1_
        replace u2_ := eq_true u2_
        have HL := Lib.hid (And.intro hlenT (And.intro hkq (And.intro hrX hpl)))
        obtain ⟨x0, x1, x2, x3, _⟩ := four_of hR.out.blk
        obtain ⟨e0, e1, e2⟩ := hR.out.key p hpl
        obtain ⟨n0, n1, n2⟩ := three_of hK.out
        clear hlenT hkq hget hpl hrX
        go_upto_region 11 with (fail)
        go_cut [9] (fun v9 wx => v9 = .bool (on || p == m) ∧ wx = wr)
        case first =>
          cases on with
          | true =>
            go_wp2_with fail
            go_meet
            case rel => exact ⟨rfl, rfl⟩
          | false =>
            by_cases hpm : p = m
            · have b1 : (p == m) = true := beq_iff_eq.2 hpm
              have b2 : ((p : Int) == (m : Int)) = true := beq_iff_eq.2 (by omega)
              have HPM := Lib.hid b1
              clear hpm
              go_wp2_with fail
              go_meet
              case rel => exact ⟨by rw [HPM.out]; rfl, rfl⟩
            · have b1 : (p == m) = false := beq_eq_false_iff_ne.2 hpm
              have b2 : ((p : Int) == (m : Int)) = false := beq_eq_false_iff_ne.2 (by omega)
              have HPM := Lib.hid b1
              clear hpm
              go_wp2_with fail
              go_meet
              case rel => exact ⟨by rw [HPM.out]; rfl, rfl⟩
        case rest =>
          obtain ⟨rfl, rfl⟩ := hcut
          have hres := hT.out.2
          unfold refL at hres
          by_cases hon : (on || p == m) = true
          · rw [if_pos hon] at hres
            have HON := Lib.hid hon
            rw [hon]
            by_cases he : eqk (nd l p).f0 k = true
            · rw [if_pos he] at hres
              have hk := eqk_true he
              rw [hk] at e0 e1 e2
              simp only [Prod.mk.injEq] at hres
              obtain ⟨rfl, rfl⟩ := hres
              clear he hk hon
              go_wp2_with fail
              go_quiet (fail)
              go_wp2_with fail
              go_ret2
              exact ⟨rfl, pw_below_drewN hB.out _⟩
            · rw [if_neg he] at hres
              have HRS := Lib.hid hres
              have he' : eqk (nd l p).f0 k = false := by simpa using he
              clear hres hon
              rcases eqk_false he' with b0 | ⟨b0, b1⟩ | ⟨b0, b1, b2⟩
              all_goals (first | (have c0 := beq_eq_false_iff_ne.2 b0; have c1 := decide_eq_false b0; have c2 := eq_false b0) | (rw [b0] at e0))
              all_goals (try (first | (have c3 := beq_eq_false_iff_ne.2 b1; have c4 := decide_eq_false b1; have c5 := eq_false b1) | (rw [b1] at e1)))
              all_goals (try (have c6 := decide_eq_false (beq_eq_false_iff_ne.1 b2)))
              all_goals
                clear he he'
                go_wp2_with fail
                go_quiet (fail)
                go_wp2_with fail
                go_roundg T2.length
                case measure => have := HL.out.2.1; omega
                case rel => exact ⟨X ++ [p], T2, true, rd + 1, by (first | go_num | (rw [List.length_append, List.length_singleton]; go_num)), rfl, by go_num, by rw [List.length_append, List.length_singleton]; have := HL.out.2.2.1; omega, rfl, Lib.hid ⟨by rw [hT.out.1]; simp, HRS.out⟩, Lib.hid (pw_below_drewN hB.out _), Lib.hid (hR.out.below (pw_below_drewN (Below.refl _ _) _)), Lib.hid (blk_drewN hK.out _), Lib.hid (Kd.C_below hC.out (pw_below_drewN (Below.refl _ _) _))⟩
          · rw [if_neg hon] at hres
            have hon2 : (on || p == m) = false := by simpa using hon
            rw [hon2]
            have HRS := Lib.hid hres
            clear hres hon hon2
            go_wp2_with fail
            go_roundg T2.length
            case measure => have := HL.out.2.1; omega
            case rel => exact ⟨X ++ [p], T2, false, rd, by (first | go_num | (rw [List.length_append, List.length_singleton]; go_num)), rfl, rfl, by rw [List.length_append, List.length_singleton]; have := HL.out.2.2.1; omega, rfl, Lib.hid ⟨by rw [hT.out.1]; simp, HRS.out⟩, hB, hR, hK, hC⟩
theorem rfind_call {B q bk bv bc ck cv cc : Nat} {l : List Nd} {f : Int} {C : Nat → List Nat} {w : World} {f0 : Nat} (h : IsR B q bk bv bc ck cv cc l f C w) (hI : InvC l f0 C) (k : Ky) (at_ r : Int) (hf : fndR l k = (at_, r)) :
    Calls Try.prog 61 #[.pointer (some ⟨q, 0, none⟩), kv k] w fun e w' => e = .returned (.tuple #[.int .i64 at_, .int .i64 r]) ∧ Below w.heap.size w w' := by
  by_cases hk : l = [] ∨ ¬ KeyOk k
  · have h1 := fndR_no hk
    rw [h1] at hf
    simp only [Prod.mk.injEq] at hf
    obtain ⟨rfl, rfl⟩ := hf
    exact rfind_no h k hk
  · obtain ⟨h1, h2⟩ := not_or.1 hk
    rcases hI.inv with ⟨e, _⟩ | hI
    · exact absurd e h1
    · exact rfind_yes h hI k (Classical.not_not.1 h2) at_ r hf
end Go.Proofs.Ytlmmhlabacghnaa.PH
/- nodes: the reference's Get. -/
namespace Go.Proofs.Ytlmmhlabacghnaa.PH
open Go.RowKit Go.Proofs.YtlmmhlabacghnaaW.PrintWords Go.Proofs.YtlmmhlabacghnaaW.PrintLast Go.Proofs.YtlmmhlabacghnaaW.PrintMore
open Go.Proofs.Ytlmmhlabacghnaa.HM
set_option linter.unusedVariables false
set_option linter.unusedSimpArgs false

set_option maxHeartbeats 4000000 in
set_option maxRecDepth 100000 in
theorem rget_call {B q bk bv bc ck cv cc : Nat} {l : List Nd} {f : Int} {C : Nat → List Nat} {w : World} {f0 : Nat} (h : IsR B q bk bv bc ck cv cc l f C w) (hI : InvC l f0 C) (k : Ky) (at_ r : Int) (hfc : fndR l k = (at_, r)) (hat : at_ = -1 ∨ ∃ p : Nat, at_ = p ∧ p < l.length) :
    Calls Try.prog 60 #[.pointer (some ⟨q, 0, none⟩), kv k] w fun e w' => e = .returned (.tuple #[kv (valAt l at_), .int .i64 r]) ∧ Below w.heap.size w w' := by
  unfold kv
  have H := Lib.hid (And.intro h (And.intro hI hfc))
  have hlen := h.len
  clear h hI hfc
  go_enter Try.func60, Try.ntmps60
  go_wp2_with fail
  obtain ⟨w1, hw1, hb1, hn1, hs1⟩ : ∃ w1, (w.alloc (.cells #[.int .i64 k.f0, .int .i64 k.f1, .string k.f2] 30)).alloc (.cells #[.int .i64 0, .int .i64 0, .string (⟨#[]⟩ : ByteArray)] 30) = w1 ∧ Below w.heap.size w w1 ∧
      w1.heap[w.heap.size + 1]? = some (.cells #[.int .i64 0, .int .i64 0, .string (⟨#[]⟩ : ByteArray)] 30 (0, 0)) ∧ w1.heap.size = w.heap.size + 2 :=
    ⟨_, rfl, ((Below.refl _ _).alloc (Nat.le_refl _) _).alloc (by simp) _, by have := heap_alloc_new (w.alloc (.cells #[.int .i64 k.f0, .int .i64 k.f1, .string k.f2] 30)) (.cells #[.int .i64 0, .int .i64 0, .string (⟨#[]⟩ : ByteArray)] 30); simpa using this, by simp⟩
  rw [hw1]
  have hx := rfind_call (H.out.1.below hb1) H.out.2.1 k at_ r H.out.2.2
  unfold kv at hx
  refine hx.mono ?_
  rintro e w2 ⟨rfl, hb2⟩
  have I2 := Lib.hid ((H.out.1.below hb1).below hb2)
  have N2 := Lib.hid ((hb2.block (w.heap.size + 1) (by omega)).trans hn1)
  have B2 := Lib.hid (hb1.trans (hb2.mono (by omega)))
  clear hx hw1 hb1 hn1 hs1 hb2
  obtain ⟨z0, z1, z2⟩ := three_of N2.out
  have u0 := blk_frozen N2.out 0
  have u1 := blk_frozen N2.out 1
  have u2 := blk_frozen N2.out 2
  rcases hat with rfl | ⟨p, rfl, hp⟩
  · have d1 : decide ((-1 : Int) < 0) = true := by decide
    go_wp2_with fail
    obtain ⟨G, hG⟩ : ∃ G, w.heap.size + 1 = G := ⟨_, rfl⟩
    have hn := N2.out
    rw [hG] at hn ⊢
    have h0 : (((w2.setCell ⟨G, 0, none⟩ (.int .i64 0)).setCell ⟨G, 1, none⟩ (.int .i64 0)).setCell ⟨G, 2, none⟩ (.string (⟨#[]⟩ : ByteArray))).heap[G]? = some (.cells #[.int .i64 0, .int .i64 0, .string (⟨#[]⟩ : ByteArray)] 30 (0, 0)) := by
      refine blk_put (cs := #[.int .i64 0, .int .i64 0, .string (⟨#[]⟩ : ByteArray)]) ?_ 2 _ rfl
      refine blk_put (cs := #[.int .i64 0, .int .i64 0, .string (⟨#[]⟩ : ByteArray)]) ?_ 1 _ rfl
      exact blk_put (cs := #[.int .i64 0, .int .i64 0, .string (⟨#[]⟩ : ByteArray)]) hn 0 _ rfl
    have hle : w.heap.size ≤ G := by omega
    exact bodyPost_ret (results_ct rfl _ _ G 30 _ (0, 0) _ rfl h0 Try.underlying30 rfl (by kernel_rfl)) rfl ⟨rfl, ((B2.out.setCell (p := ⟨G, 0, none⟩) hle _).setCell (p := ⟨G, 1, none⟩) hle _).setCell (p := ⟨G, 2, none⟩) hle _⟩
  · have d1 : decide ((p : Int) < 0) = false := decide_eq_false (by omega)
    have p1 : 0 ≤ (p : Int) := by omega
    have p2 : (p : Int) < (l.length : Int) := by omega
    have hpp : (p : Int) ≤ 65536 := by omega
    obtain ⟨x0, x1, x2, x3, _⟩ := four_of I2.out.blk
    obtain ⟨e0, e1, e2⟩ := I2.out.val p hp
    replace p1 := eq_true p1
    replace p2 := eq_true p2
    have hv : RowKit.Hid (valAt l p = (nd l p).f1) := Lib.hid (by unfold valAt; rw [if_pos (by omega), Int.toNat_natCast])
    clear hp
    go_wp2_with fail
    obtain ⟨G, hG⟩ : ∃ G, w.heap.size + 1 = G := ⟨_, rfl⟩
    have hn := N2.out
    rw [hG] at hn ⊢
    have h0 : (((w2.setCell ⟨G, 0, none⟩ (.int .i64 (nd l p).f1.f0)).setCell ⟨G, 1, none⟩ (.int .i64 (nd l p).f1.f1)).setCell ⟨G, 2, none⟩ (.string (nd l p).f1.f2)).heap[G]? = some (.cells #[.int .i64 (nd l p).f1.f0, .int .i64 (nd l p).f1.f1, .string (nd l p).f1.f2] 30 (0, 0)) := by
      refine blk_put (cs := #[.int .i64 (nd l p).f1.f0, .int .i64 (nd l p).f1.f1, .string (⟨#[]⟩ : ByteArray)]) ?_ 2 _ rfl
      refine blk_put (cs := #[.int .i64 (nd l p).f1.f0, .int .i64 0, .string (⟨#[]⟩ : ByteArray)]) ?_ 1 _ rfl
      exact blk_put (cs := #[.int .i64 0, .int .i64 0, .string (⟨#[]⟩ : ByteArray)]) hn 0 _ rfl
    have hle : w.heap.size ≤ G := by omega
    rw [hv.out]
    exact bodyPost_ret (results_ct rfl _ _ G 30 _ (0, 0) _ rfl h0 Try.underlying30 rfl (by kernel_rfl)) rfl ⟨rfl, ((B2.out.setCell (p := ⟨G, 0, none⟩) hle _).setCell (p := ⟨G, 1, none⟩) hle _).setCell (p := ⟨G, 2, none⟩) hle _⟩
end Go.Proofs.Ytlmmhlabacghnaa.PH
/- nodes: the reference's part, its rows written. -/
namespace Go.Proofs.Ytlmmhlabacghnaa.PH
open Go.RowKit Go.Proofs.YtlmmhlabacghnaaW.PrintWords Go.Proofs.YtlmmhlabacghnaaW.PrintLast Go.Proofs.YtlmmhlabacghnaaW.PrintMore
open Go.Proofs.Ytlmmhlabacghnaa.HM
set_option linter.unusedVariables false
set_option linter.unusedSimpArgs false

/-- The kind of a list of numbers. -/
abbrev KI : Kd (List Int) := Kd.slice 3 (Kd.int .i64)
/-- The part by its lists. -/
structure IsRL (B q bk bv bc ck cv cc N : Nat) (ks vs : List Ky) (cs : List (List Int)) (f : Int) (w : World) : Prop where
  blk : w.heap[q]? = some (.cells #[.slice (some ⟨bk, 0, none⟩) N ck, .slice (some ⟨bv, 0, none⟩) N cv, .slice (some ⟨bc, 0, none⟩) N cc, .int .i64 f] 88 (0, 0))
  rk : Kd.R k30 30 w B (fun k => k = bk) (.slice (some ⟨bk, 0, none⟩) N ck) ks
  rv : Kd.R k30 30 w B (fun k => k = bv) (.slice (some ⟨bv, 0, none⟩) N cv) vs
  rc : Kd.S KI 49 w B (fun k => k ≠ q ∧ k ≠ bk ∧ k ≠ bv) (.slice (some ⟨bc, 0, none⟩) N cc) cs
  n1 : q ≠ bk
  n2 : q ≠ bv
  n3 : bk ≠ bv
  bq : B ≤ q
theorem IsR.toL {B q bk bv bc ck cv cc : Nat} {l : List Nd} {f : Int} {C : Nat → List Nat} {w : World} (h : IsR B q bk bv bc ck cv cc l f C w) : IsRL B q bk bv bc ck cv cc l.length (ksOf l) (vsOf l) (csOf l.length C) f w :=
  ⟨h.blk, h.rk, h.rv, h.rc, h.n1, h.n2, h.n3, h.bq⟩
theorem IsRL.toR {B q bk bv bc ck cv cc N : Nat} {ks vs : List Ky} {cs : List (List Int)} {l : List Nd} {f : Int} {C : Nat → List Nat} {w : World} (h : IsRL B q bk bv bc ck cv cc N ks vs cs f w) (hN : N = l.length) (hk : ks = ksOf l) (hv : vs = vsOf l) (hc : cs = csOf l.length C) (hl : l.length ≤ 65536) : IsR B q bk bv bc ck cv cc l f C w := by
  subst hN hk hv hc
  exact ⟨h.blk, h.rk, h.rv, h.rc, h.n1, h.n2, h.n3, h.bq, hl⟩
section
variable {B q bk bv bc ck cv cc N : Nat} {ks vs : List Ky} {cs : List (List Int)} {f : Int} {w w' : World}
theorem IsRL.below (h : IsRL B q bk bv bc ck cv cc N ks vs cs f w) (hb : Below w.heap.size w w') : IsRL B q bk bv bc ck cv cc N ks vs cs f w' :=
  ⟨(hb.block q (Array.getElem?_eq_some_iff.1 h.blk).1).trans h.blk, Kd.R_below h.rk hb, Kd.R_below h.rv hb, Kd.S_below h.rc hb, h.n1, h.n2, h.n3, h.bq⟩
theorem IsRL.bcne (h : IsRL B q bk bv bc ck cv cc N ks vs cs f w) : bc ≠ q ∧ bc ≠ bk ∧ bc ≠ bv := by
  obtain ⟨g, hR⟩ := h.rc
  exact hR.1 bc (by simp [Value.ownBlock])
theorem IsRL.ge (h : IsRL B q bk bv bc ck cv cc N ks vs cs f w) : B ≤ q ∧ B ≤ bk ∧ B ≤ bv ∧ B ≤ bc :=
  ⟨h.bq, Kd.R_base h.rk bk (by simp [Value.ownBlock]), Kd.R_base h.rv bv (by simp [Value.ownBlock]), Kd.S_base h.rc bc (by simp [Value.ownBlock])⟩
theorem IsRL.lt (h : IsRL B q bk bv bc ck cv cc N ks vs cs f w) : q < w.heap.size ∧ bk < w.heap.size ∧ bv < w.heap.size ∧ bc < w.heap.size :=
  ⟨(Array.getElem?_eq_some_iff.1 h.blk).1, Kd.R_lt h.rk bk (by simp [Value.ownBlock]), Kd.R_lt h.rv bv (by simp [Value.ownBlock]), Kd.S_lt h.rc bc (by simp [Value.ownBlock])⟩
theorem IsRL.klen (h : IsRL B q bk bv bc ck cv cc N ks vs cs f w) : ks.length = N ∧ vs.length = N ∧ cs.length = N := ⟨(Kd.R_reads' h.rk).1.symm, (Kd.R_reads' h.rv).1.symm, (Kd.S_reads' h.rc).1.symm⟩
theorem IsRL.key (h : IsRL B q bk bv bc ck cv cc N ks vs cs f w) (j : Nat) (hj : j < N) :
    w.cell? ⟨bk, j * 3, none⟩ = some (.int .i64 (kd ks j).f0) ∧ w.cell? ⟨bk, j * 3 + 1, none⟩ = some (.int .i64 (kd ks j).f1) ∧ w.cell? ⟨bk, j * 3 + 2, none⟩ = some (.string (kd ks j).f2) := by
  obtain ⟨ad, e, q0, q1, q2⟩ := at_kd (Kd.R_reads' h.rk).2.2 j (by have := h.klen; omega)
  obtain rfl := Option.some.inj e
  rw [add_blk] at q0 q1 q2
  exact ⟨q0, q1, q2⟩
theorem IsRL.val (h : IsRL B q bk bv bc ck cv cc N ks vs cs f w) (j : Nat) (hj : j < N) :
    w.cell? ⟨bv, j * 3, none⟩ = some (.int .i64 (kd vs j).f0) ∧ w.cell? ⟨bv, j * 3 + 1, none⟩ = some (.int .i64 (kd vs j).f1) ∧ w.cell? ⟨bv, j * 3 + 2, none⟩ = some (.string (kd vs j).f2) := by
  obtain ⟨ad, e, q0, q1, q2⟩ := at_kd (Kd.R_reads' h.rv).2.2 j (by have := h.klen; omega)
  obtain rfl := Option.some.inj e
  rw [add_blk] at q0 q1 q2
  exact ⟨q0, q1, q2⟩
theorem IsRL.chain (h : IsRL B q bk bv bc ck cv cc N ks vs cs f w) (j : Nat) (hj : j < N) :
    ∃ A c, w.cell? ⟨bc, j, none⟩ = some (.slice A (cs.getD j []).length c) ∧ Kd.C (Kd.int .i64) w A (cs.getD j []).length (cs.getD j []) := by
  have hC := (Kd.S_reads' h.rc).2.2
  obtain ⟨ad, A, c, e, q0, _, q1⟩ := at_L4 hC (j : Int) (by omega) (by have := h.klen; omega)
  obtain rfl := Option.some.inj e
  have e2 : rd_L4 cs (j : Int) = cs.getD j [] := by unfold rd_L4; rw [Int.toNat_natCast]
  rw [e2] at q0 q1
  rw [Int.toNat_natCast, add_blk] at q0
  exact ⟨A, c, q0, q1⟩
theorem IsRL.kfree (h : IsRL B q bk bv bc ck cv cc N ks vs cs f w) (i : Nat) : w.frozen? ⟨bk, i, none⟩ = false := by
  obtain ⟨_, inner, ho, _⟩ := h.rk
  obtain ⟨cells, hc⟩ := own_typed ho bk (by simp [Value.ownBlock])
  exact blk_frozen hc _
theorem IsRL.vfree (h : IsRL B q bk bv bc ck cv cc N ks vs cs f w) (i : Nat) : w.frozen? ⟨bv, i, none⟩ = false := by
  obtain ⟨_, inner, ho, _⟩ := h.rv
  obtain ⟨cells, hc⟩ := own_typed ho bv (by simp [Value.ownBlock])
  exact blk_frozen hc _
/-- Another block has been written. -/
theorem IsRL.far (h : IsRL B q bk bv bc ck cv cc N ks vs cs f w) {p : Addr} (hp : w.heap.size ≤ p.block ∨ p.block < B) (v : Value) : IsRL B q bk bv bc ck cv cc N ks vs cs f (w.setCell p v) := by
  have hg := h.ge
  have hl := h.lt
  exact ⟨(Below.heap_setCell w p v q (by omega)).trans h.blk, Kd.R_far h.rk (fun k hk => by omega) v, Kd.R_far h.rv (fun k hk => by omega) v, Kd.S_mono (Kd.S_far (Kd.S_bound h.rc) (fun k hk => by have := hk.2.1; have := hk.2.2.1; omega) v) (fun k hk => hk.1), h.n1, h.n2, h.n3, h.bq⟩
theorem IsRL.setF (h : IsRL B q bk bv bc ck cv cc N ks vs cs f w) (f' : Int) : IsRL B q bk bv bc ck cv cc N ks vs cs f' (w.setCell ⟨q, 3, none⟩ (.int .i64 f')) := by
  have hn := h.bcne
  exact ⟨blk_put (cs := #[.slice (some ⟨bk, 0, none⟩) N ck, .slice (some ⟨bv, 0, none⟩) N cv, .slice (some ⟨bc, 0, none⟩) N cc, .int .i64 f]) h.blk 3 _ rfl, Kd.R_far (p := ⟨q, 3, none⟩) h.rk (fun k hk => by rw [hk]; exact fun e => h.n1 e.symm) _, Kd.R_far (p := ⟨q, 3, none⟩) h.rv (fun k hk => by rw [hk]; exact fun e => h.n2 e.symm) _, Kd.S_far (p := ⟨q, 3, none⟩) h.rc (fun k hk => hk.1) _, h.n1, h.n2, h.n3, h.bq⟩
theorem IsRL.setK (h : IsRL B q bk bv bc ck cv cc N ks vs cs f w) (i : Nat) (hi : i < N) (k : Ky) : IsRL B q bk bv bc ck cv cc N (ks.set i k) vs cs f (((w.setCell ⟨bk, i * 3, none⟩ (.int .i64 k.f0)).setCell ⟨bk, i * 3 + 1, none⟩ (.int .i64 k.f1)).setCell ⟨bk, i * 3 + 2, none⟩ (.string k.f2)) := by
  obtain ⟨q0, q1, q2⟩ := h.key i hi
  have hn := h.bcne
  have key := Kd.R_seg (d := k30) h.rk (i : Int) (by omega) (by omega) (c := [.int .i64 (kd ks i).f0, .int .i64 (kd ks i).f1, .string (kd ks i).f2]) (seg := [.int .i64 k.f0, .int .i64 k.f1, .string k.f2]) (j := 0) (x' := k) (okp := fun _ => False) rfl ?_ (show 0 + 3 ≤ 3 by decide) (k30_mkM _ _ _ _) (fun _ hk => hk.elim)
  · obtain ⟨hR, _⟩ := key
    rw [Int.toNat_natCast] at hR
    have hR' : Kd.R k30 30 (((w.setCell ⟨bk, i * 3, none⟩ (.int .i64 k.f0)).setCell ⟨bk, i * 3 + 1, none⟩ (.int .i64 k.f1)).setCell ⟨bk, i * 3 + 2, none⟩ (.string k.f2)) B (fun k => k = bk) (.slice (some ⟨bk, 0, none⟩) N ck) (ks.set i k) := hR
    refine ⟨?_, hR', ?_, ?_, h.n1, h.n2, h.n3, h.bq⟩
    · rw [Below.heap_setCell _ _ _ _ h.n1, Below.heap_setCell _ _ _ _ h.n1, Below.heap_setCell _ _ _ _ h.n1]
      exact h.blk
    · have hf : ∀ k, k = bv → k ≠ bk := fun k hk => by rw [hk]; exact Ne.symm h.n3
      exact Kd.R_far (p := ⟨bk, _, none⟩) (Kd.R_far (p := ⟨bk, _, none⟩) (Kd.R_far (p := ⟨bk, _, none⟩) h.rv hf _) hf _) hf _
    · exact Kd.S_far (p := ⟨bk, _, none⟩) (Kd.S_far (p := ⟨bk, _, none⟩) (Kd.S_far (p := ⟨bk, _, none⟩) h.rc (fun k hk => hk.2.1) _) (fun k hk => hk.2.1) _) (fun k hk => hk.2.1) _
  · intro j u hu
    rw [Int.toNat_natCast]
    match j, hu with
    | 0, hu => cases hu; exact q0
    | 1, hu => cases hu; exact q1
    | 2, hu => cases hu; exact q2
    | j + 3, hu => simp at hu
theorem IsRL.setV (h : IsRL B q bk bv bc ck cv cc N ks vs cs f w) (i : Nat) (hi : i < N) (k : Ky) : IsRL B q bk bv bc ck cv cc N ks (vs.set i k) cs f (((w.setCell ⟨bv, i * 3, none⟩ (.int .i64 k.f0)).setCell ⟨bv, i * 3 + 1, none⟩ (.int .i64 k.f1)).setCell ⟨bv, i * 3 + 2, none⟩ (.string k.f2)) := by
  obtain ⟨q0, q1, q2⟩ := h.val i hi
  have hn := h.bcne
  have key := Kd.R_seg (d := k30) h.rv (i : Int) (by omega) (by omega) (c := [.int .i64 (kd vs i).f0, .int .i64 (kd vs i).f1, .string (kd vs i).f2]) (seg := [.int .i64 k.f0, .int .i64 k.f1, .string k.f2]) (j := 0) (x' := k) (okp := fun _ => False) rfl ?_ (show 0 + 3 ≤ 3 by decide) (k30_mkM _ _ _ _) (fun _ hk => hk.elim)
  · obtain ⟨hR, _⟩ := key
    rw [Int.toNat_natCast] at hR
    have hR' : Kd.R k30 30 (((w.setCell ⟨bv, i * 3, none⟩ (.int .i64 k.f0)).setCell ⟨bv, i * 3 + 1, none⟩ (.int .i64 k.f1)).setCell ⟨bv, i * 3 + 2, none⟩ (.string k.f2)) B (fun k => k = bv) (.slice (some ⟨bv, 0, none⟩) N cv) (vs.set i k) := hR
    refine ⟨?_, ?_, hR', ?_, h.n1, h.n2, h.n3, h.bq⟩
    · rw [Below.heap_setCell _ _ _ _ h.n2, Below.heap_setCell _ _ _ _ h.n2, Below.heap_setCell _ _ _ _ h.n2]
      exact h.blk
    · have hf : ∀ k, k = bk → k ≠ bv := fun k hk => by rw [hk]; exact h.n3
      exact Kd.R_far (p := ⟨bv, _, none⟩) (Kd.R_far (p := ⟨bv, _, none⟩) (Kd.R_far (p := ⟨bv, _, none⟩) h.rk hf _) hf _) hf _
    · exact Kd.S_far (p := ⟨bv, _, none⟩) (Kd.S_far (p := ⟨bv, _, none⟩) (Kd.S_far (p := ⟨bv, _, none⟩) h.rc (fun k hk => hk.2.2) _) (fun k hk => hk.2.2) _) (fun k hk => hk.2.2) _
  · intro j u hu
    rw [Int.toNat_natCast]
    match j, hu with
    | 0, hu => cases hu; exact q0
    | 1, hu => cases hu; exact q1
    | 2, hu => cases hu; exact q2
    | j + 3, hu => simp at hu
theorem below3 {w0 w : World} {B b i j m : Nat} (h : Below B w0 w) (hb : B ≤ b) (x y z : Value) : Below B w0 (((w.setCell ⟨b, i, none⟩ x).setCell ⟨b, j, none⟩ y).setCell ⟨b, m, none⟩ z) :=
  ((h.setCell (p := ⟨b, i, none⟩) hb x).setCell (p := ⟨b, j, none⟩) hb y).setCell (p := ⟨b, m, none⟩) hb z
end
theorem at_int2 {w : World} {A : Option Addr} {n : Nat} {xs : List Int} (h : Kd.C (Kd.int .i64) w A n xs) (i : Nat) (h1 : i < n) : ∃ ad, A = some ad ∧ w.cell? (ad.add i) = some (.int .i64 (xs.getD i 0)) := by
  obtain ⟨ad, c, e, _, hK, hc0⟩ := Kd.C_get h (0 : Int) (i : Int) (by omega) (by omega)
  rw [Int.toNat_natCast] at hK hc0
  have hk : c = [.int .i64 (xs.getD i 0)] := hK
  subst hk
  have hc := hc0 0 _ rfl
  have e1 : i * (Kd.int .i64).sz + 0 = i := by show i * 1 + 0 = i; omega
  rw [e1] at hc
  exact ⟨ad, e, hc⟩
/-- A chain is stored anew: a row that was made since. -/
theorem IsRL.storeC {ops : Array Oper} {rest : List Oper} {o : Oper} {ac : Act} {Q : Exit → Act → World → Prop} {B q bk bv bc ck cv cc N : Nat} {ks vs : List Ky} {cs : List (List Int)} {f : Int} {W0 W : World} (h : IsRL B q bk bv bc ck cv cc N ks vs cs f W0) (hb : Below W0.heap.size W0 W) (hN : o.dst = none) (hgd : o.guard = none) (p x : Operand) (ho : o.op = .store 49 p x)
    (i : Nat) (hi : i < N) (v : Value) (xs : List Int) (hv : Kd.R (Kd.int .i64) 3 W B (fun k => W0.heap.size ≤ k) v xs) (hp : ac.eval p = .pointer (some ⟨bc, i, none⟩)) (hx : ac.eval x = v)
    (hK : ∀ w1, IsRL B q bk bv bc ck cv cc N ks vs (cs.set i xs) f w1 → Below B W w1 → (∀ b, b < W.heap.size → b ≠ bc → w1.heap[b]? = W.heap[b]?) → wpList Try.prog ops Q rest ac w1) : wpList Try.prog ops Q (o :: rest) ac W := by
  obtain ⟨oki, c, hcl, hM, hcc, hfz, hok, hH⟩ := Kd.S_elem h.rc [] (i : Int) (by omega) (by omega)
  have hH2 := Kd.H_below (Kd.H_widen hH) hb
  have hlt := h.lt
  obtain ⟨hv1, hv2⟩ := Kd.R_val hv
  have hsz : c.length = 1 := hcl
  refine Kd.H_store KI (w0 := W) (W := W) B hN hgd 49 p x ho 49 (i : Int) 0 cs xs v [v] c (fun k => k ≠ q ∧ k ≠ bk ∧ k ≠ bv) (fun k => oki k ∨ (k ≠ q ∧ k ≠ bk ∧ k ≠ bv) ∧ W0.heap.size ≤ k) (fun k => W0.heap.size ≤ k) hp (by rw [Int.toNat_natCast]; show i = i * 1 + 0; omega) hx hv1 (by kernel_rfl) (fun z hz => by rw [List.mem_singleton.1 hz]; exact hv2) hH2 (by omega) (by omega) (show 0 + 1 ≤ 1 by decide) ?_ (fun k hk => .inr ⟨⟨by omega, by omega, by omega⟩, hk⟩) (Below.refl _ _) ?_
  · match c, hsz with
    | [u], _ => exact ⟨v, rfl, hv⟩
  · intro w1 hS hB hg
    rw [Int.toNat_natCast] at hS
    have hn := h.bcne
    have h2 := h.below hb
    have hfr : ∀ k, k < W.heap.size → some k ≠ some bc → w1.heap[k]? = W.heap[k]? := hg.block
    have hbl := h2.lt
    have hge := h2.ge
    refine hK w1 ⟨(hfr q hbl.1 (fun e => hn.1 (Option.some.inj e).symm)).trans h2.blk, Kd.R_step h2.rk (fun k hk hlt => hfr k hlt (fun e => by rw [hk] at e; exact hn.2.1 (Option.some.inj e).symm)), Kd.R_step h2.rv (fun k hk hlt => hfr k hlt (fun e => by rw [hk] at e; exact hn.2.2 (Option.some.inj e).symm)), hS, h.n1, h.n2, h.n3, h.bq⟩ hB (fun b hb hne => hfr b hb (fun e => hne (Option.some.inj e)))
end Go.Proofs.Ytlmmhlabacghnaa.PH
/- nodes: the reference's part, a chain's number written. -/
namespace Go.Proofs.Ytlmmhlabacghnaa.PH
open Go.RowKit Go.Proofs.YtlmmhlabacghnaaW.PrintWords Go.Proofs.YtlmmhlabacghnaaW.PrintLast Go.Proofs.YtlmmhlabacghnaaW.PrintMore
open Go.Proofs.Ytlmmhlabacghnaa.HM
set_option linter.unusedVariables false
set_option linter.unusedSimpArgs false

theorem IsRL.storeI {ops : Array Oper} {rest : List Oper} {o : Oper} {ac : Act} {Q : Exit → Act → World → Prop} {B q bk bv bc ck cv cc N : Nat} {ks vs : List Ky} {cs : List (List Int)} {f : Int} {W : World} (h : IsRL B q bk bv bc ck cv cc N ks vs cs f W) (hN : o.dst = none) (hgd : o.guard = none) (p xo : Operand) (ho : o.op = .store 3 p xo)
    (j : Nat) (hj : j < N) (A : Option Addr) (n cx : Nat) (hcell : W.cell? ⟨bc, j, none⟩ = some (.slice A n cx)) (ad : Addr) (hA : A = some ad) (i : Nat) (hi : i < (cs.getD j []).length) (x : Int) (hp : ac.eval p = .pointer (some (ad.add i))) (hx : ac.eval xo = .int .i64 x)
    (hK : ∀ w1, IsRL B q bk bv bc ck cv cc N ks vs (cs.set j ((cs.getD j []).set i x)) f w1 → Below B W w1 → w1.cell? ⟨bc, j, none⟩ = some (.slice A n cx) → (∀ (b : Nat) (cells : Array Value) (ty : TypeId), W.heap[b]? = some (Obj.cells cells ty (0, 0)) → ty ≠ 3 → w1.heap[b]? = some (Obj.cells cells ty (0, 0))) → wpList Try.prog ops Q rest ac w1) : wpList Try.prog ops Q (o :: rest) ac W := by
  obtain ⟨oki, c, hcl, hM, hcc, hok, hH⟩ := Kd.S_lend h.rc [] (j : Int) (by omega) (by omega)
  rw [Int.toNat_natCast] at hM hcc
  obtain ⟨v, rfl, hR⟩ := hM
  have hv := hcc 0 _ rfl
  have hv2 : W.cell? ⟨bc, j, none⟩ = some v := by
    have e : j * KI.sz + 0 = j := by show j * 1 + 0 = j; omega
    rw [← e]; exact hv
  rw [hcell] at hv2
  obtain rfl := Option.some.inj hv2
  subst hA
  obtain ⟨g, rfl⟩ := Kd.R_head hR
  have hn := (Kd.R_reads' hR).1
  have hog : oki g := hR.1 g (by simp [Value.ownBlock])
  obtain ⟨c0, hc0, hM0, hcc0⟩ := Kd.R_getA hR (0 : Int) (i : Int) (by omega) (by omega)
  have hk0 : c0 = [.int .i64 ((cs.getD j []).getD (i : Int).toNat 0)] := hM0
  have hce := hcc0 0 _ (by rw [hk0]; rfl)
  rw [Int.toNat_natCast] at hce
  have e1 : i * (Kd.int .i64).sz + 0 = i := by show i * 1 + 0 = i; omega
  rw [e1, add_blk] at hce
  refine Kd.R_store (Kd.int .i64) (w0 := W) (W := W) B hN hgd 3 p xo ho 3 (i : Int) 0 (cs.getD j []) x (.int .i64 x) [.int .i64 x] [.int .i64 ((cs.getD j []).getD i 0)] oki (fun _ => False) (by rw [hp, add_blk]) (by rw [Int.toNat_natCast]; show i = i * 1 + 0; omega) hx rfl (by kernel_rfl) (fun z hz => by rw [List.mem_singleton.1 hz]; rfl) hR (by omega) (by omega) rfl ?cc (show 0 + 1 ≤ 1 by decide) rfl (fun _ hk => hk.elim) (Below.refl _ _) ?_
  case cc =>
    intro m u hu
    rw [Int.toNat_natCast]
    match m, hu with
    | 0, hu => cases hu; rw [e1]; exact hce
    | m + 1, hu => simp at hu
  intro w1 hR1 hB1 hg
  rw [Int.toNat_natCast] at hR1
  have hgo := (hok g hog).1
  have hS := Kd.H_back (Kd.H_grown hH hg (fun k hk => by cases hk; exact hog)) (x' := (cs.getD j []).set i x) (okp := oki) ⟨_, rfl, hR1⟩ (fun k hk => hk)
  rw [Int.toNat_natCast] at hS
  have hfr : ∀ k, k < W.heap.size → some k ≠ some g → w1.heap[k]? = W.heap[k]? := hg.block
  have hlt := h.lt
  have hgbc : bc ≠ g := Ne.symm (hok g hog).2
  refine hK w1 ⟨(hfr q hlt.1 (fun e => hgo.1 (Option.some.inj e).symm)).trans h.blk, Kd.R_step h.rk (fun k hk hl => hfr k hl (fun e => by rw [hk] at e; exact hgo.2.1 (Option.some.inj e).symm)), Kd.R_step h.rv (fun k hk hl => hfr k hl (fun e => by rw [hk] at e; exact hgo.2.2 (Option.some.inj e).symm)), hS, h.n1, h.n2, h.n3, h.bq⟩ hB1 ?_ (fun b cells ty hb hty => ?_)
  rotate_left
  · obtain ⟨cg, hcg⟩ := Kd.R_typed hR g (by simp [Value.ownBlock])
    refine (hfr b (Array.getElem?_eq_some_iff.1 hb).1 (fun e => ?_)).trans hb
    rw [Option.some.inj e, hcg] at hb
    injection hb with hb
    injection hb with _ hb
    exact hty hb.symm
  have hb := hfr bc hlt.2.2.2 (fun e => hgbc (Option.some.inj e))
  rw [← hcell]
  unfold World.cell?
  simp only [hb]
end Go.Proofs.Ytlmmhlabacghnaa.PH
