/- nodes, plain: a new key goes in. -/
import Derived.Test.YtlmmhlabacghnaaNW
namespace Go.Proofs.Ytlmmhlabacghnaa.PH
open Go.RowKit Go.Proofs.YtlmmhlabacghnaaW.PrintWords Go.Proofs.YtlmmhlabacghnaaW.PrintLast Go.Proofs.YtlmmhlabacghnaaW.PrintMore
open Go.Proofs.Ytlmmhlabacghnaa.HM
set_option linter.unusedVariables false
set_option linter.unusedSimpArgs false

/-- The part holds the key with that value. -/
def has (l : List Nd) (x u : Ky) : Prop := ∃ p, p < l.length ∧ (nd l p).f0 = x ∧ (nd l p).f1 = u
/-- How many keys are held. -/
def cnt (l : List Nd) : Nat := (List.range l.length).countP (fun p => decide ((nd l p).f0.f0 ≠ 0))
theorem count_one (P Q : Nat → Bool) (e : Nat) : ∀ N, (∀ p, p < N → p ≠ e → Q p = P p) → (e < N → P e = false ∧ Q e = true) → (List.range N).countP Q = (List.range N).countP P + (if e < N then 1 else 0)
  | 0, _, _ => rfl
  | N + 1, h, he => by
    rw [List.range_succ, List.countP_append, List.countP_append]
    have ih := count_one P Q e N (fun p hp1 hpe => h p (by omega) hpe) (fun hl => he (by omega))
    by_cases hN : e = N
    · subst hN
      obtain ⟨h1, h2⟩ := he (by omega)
      rw [ih, if_neg (by omega), if_pos (by omega)]
      simp [h1, h2]
    · have h3 := h N (by omega) (fun e2 => hN e2.symm)
      rw [ih]
      have e4 : (if e < N then 1 else 0) = (if e < N + 1 then 1 else 0) := by
        by_cases h5 : e < N
        · rw [if_pos h5, if_pos (by omega)]
        · rw [if_neg h5, if_neg (by omega)]
      rw [← e4]
      simp only [List.countP_singleton, h3]
      omega
theorem cnt_full {l : List Nd} (h : cnt l = l.length) : ∀ p, p < l.length → (nd l p).f0.f0 ≠ 0 := by
  intro p hp1
  have h1 := (List.countP_eq_length (l := List.range l.length) (p := fun p => decide ((nd l p).f0.f0 ≠ 0))).1 (by rw [List.length_range]; exact h) p (List.mem_range.2 hp1)
  simpa using h1
theorem cnt_all {l : List Nd} (h : ∀ p, p < l.length → (nd l p).f0.f0 ≠ 0) : cnt l = l.length := by
  have h1 := (List.countP_eq_length (l := List.range l.length) (p := fun p => decide ((nd l p).f0.f0 ≠ 0))).2 (fun p hp1 => by simpa using h p (List.mem_range.1 hp1))
  rw [List.length_range] at h1
  exact h1
theorem cnt_one {l l' : List Nd} (hlen : l'.length = l.length) {e : Nat} (hel : e < l.length) (he : (nd l e).f0.f0 = 0) (he' : (nd l' e).f0.f0 ≠ 0) (h : ∀ p, p < l.length → p ≠ e → ((nd l' p).f0.f0 ≠ 0 ↔ (nd l p).f0.f0 ≠ 0)) : cnt l' = cnt l + 1 := by
  unfold cnt
  rw [hlen, count_one _ (fun p => decide ((nd l' p).f0.f0 ≠ 0)) e l.length (fun p hp1 hpe => ?_) (fun _ => ⟨?_, ?_⟩), if_pos hel]
  · exact decide_eq_decide.2 (h p hp1 hpe)
  · exact decide_eq_false (fun hn => hn he)
  · exact decide_eq_true he'

/-- What holds of the keys alone. -/
structure Keys (l : List Nd) : Prop where
  emp : ∀ p, p < l.length → (nd l p).f0.f0 = 0 → nd l p = z67
  ok : ∀ p, p < l.length → (nd l p).f0.f0 ≠ 0 → okB (nd l p).f0.f0 (nd l p).f0.f1 (nd l p).f0.f2 = true
  dist : ∀ p q, p < l.length → q < l.length → (nd l p).f0.f0 ≠ 0 → (nd l p).f0 = (nd l q).f0 → p = q
theorem Inv.keys {l : List Nd} {f : Nat} {C : Nat → List Nat} (h : Inv l f C) : Keys l := ⟨h.emp, h.ok, h.dist⟩

/-- One more key, at e; the others stay. -/
theorem Keys.add {l l' : List Nd} (h : Keys l) {k v : Ky} (hk : KeyOk k) (hnew : ∀ p, p < l.length → (nd l p).f0 ≠ k) (hlen : l'.length = l.length) {e : Nat} (hel : e < l.length) (he : (nd l e).f0.f0 = 0) (hke : (nd l' e).f0 = k) (hve : (nd l' e).f1 = v)
    (ho : ∀ p, p < l.length → p ≠ e → (nd l' p).f0 = (nd l p).f0 ∧ (nd l' p).f1 = (nd l p).f1) (hz : ∀ p, p < l.length → p ≠ e → (nd l p).f0.f0 = 0 → nd l' p = nd l p) :
    Keys l' ∧ cnt l' = cnt l + 1 ∧ ∀ x u, x.f0 ≠ 0 → (has l' x u ↔ (x = k ∧ u = v) ∨ has l x u) := by
  refine ⟨⟨fun p hp1 hp2 => ?_, fun p hp1 hp2 => ?_, fun p q hp1 hq1 hp2 hpq => ?_⟩, cnt_one hlen hel he (by rw [hke]; exact hk.2) (fun p hp1 hpe => by rw [(ho p hp1 hpe).1]), fun x u hx => ⟨fun ⟨p, hp1, hp2, hp3⟩ => ?_, fun hh => ?_⟩⟩
  · rw [hlen] at hp1
    by_cases hpe : p = e
    · subst hpe; rw [hke] at hp2; exact absurd hp2 hk.2
    · rw [(ho p hp1 hpe).1] at hp2
      rw [hz p hp1 hpe hp2]
      exact h.emp p hp1 hp2
  · rw [hlen] at hp1
    by_cases hpe : p = e
    · subst hpe; rw [hke]; exact hk.1
    · rw [(ho p hp1 hpe).1] at hp2 ⊢
      exact h.ok p hp1 hp2
  · rw [hlen] at hp1 hq1
    by_cases hpe : p = e
    · by_cases hqe : q = e
      · rw [hpe, hqe]
      · rw [hpe, hke, (ho q hq1 hqe).1] at hpq
        exact absurd hpq.symm (hnew q hq1)
    · by_cases hqe : q = e
      · rw [hqe, hke, (ho p hp1 hpe).1] at hpq
        exact absurd hpq (hnew p hp1)
      · rw [(ho p hp1 hpe).1] at hp2
        rw [(ho p hp1 hpe).1, (ho q hq1 hqe).1] at hpq
        exact h.dist p q hp1 hq1 hp2 hpq
  · rw [hlen] at hp1
    by_cases hpe : p = e
    · subst hpe; exact .inl ⟨hp2.symm.trans hke, hp3.symm.trans hve⟩
    · exact .inr ⟨p, hp1, (ho p hp1 hpe).1.symm.trans hp2, (ho p hp1 hpe).2.symm.trans hp3⟩
  · rcases hh with ⟨rfl, rfl⟩ | ⟨p, hp1, hp2, hp3⟩
    · exact ⟨e, by omega, hke, hve⟩
    · have hpe : p ≠ e := fun e1 => hx (by rw [← hp2, e1]; exact he)
      exact ⟨p, by omega, (ho p hp1 hpe).1.trans hp2, (ho p hp1 hpe).2.trans hp3⟩
/-- Two nodes change their places: e was free, m is free then. -/
theorem Keys.move {l l' : List Nd} (h : Keys l) (hlen : l'.length = l.length) {e m : Nat} (hel : e < l.length) (hml : m < l.length) (hem : e ≠ m) (he : (nd l e).f0.f0 = 0) (hm : (nd l m).f0.f0 ≠ 0) (h1 : (nd l' e).f0 = (nd l m).f0) (h2 : (nd l' e).f1 = (nd l m).f1) (h3 : nd l' m = z67)
    (ho : ∀ p, p < l.length → p ≠ e → p ≠ m → (nd l' p).f0 = (nd l p).f0 ∧ (nd l' p).f1 = (nd l p).f1) (hz : ∀ p, p < l.length → p ≠ e → p ≠ m → (nd l p).f0.f0 = 0 → nd l' p = nd l p) :
    Keys l' ∧ cnt l' = cnt l ∧ (∀ x u, x.f0 ≠ 0 → (has l' x u ↔ has l x u)) := by
  have z0 : (z67).f0.f0 = 0 := rfl
  refine ⟨⟨fun p hp1 hp2 => ?_, fun p hp1 hp2 => ?_, fun p q hp1 hq1 hp2 hpq => ?_⟩, ?_, fun x u hx => ⟨fun ⟨p, hp1, hp2, hp3⟩ => ?_, fun ⟨p, hp1, hp2, hp3⟩ => ?_⟩⟩
  · rw [hlen] at hp1
    by_cases hpe : p = e
    · subst hpe; rw [h1] at hp2; exact absurd hp2 hm
    · by_cases hpm : p = m
      · subst hpm; exact h3
      · rw [(ho p hp1 hpe hpm).1] at hp2
        rw [hz p hp1 hpe hpm hp2]
        exact h.emp p hp1 hp2
  · rw [hlen] at hp1
    by_cases hpe : p = e
    · subst hpe; rw [h1]; exact h.ok m hml hm
    · by_cases hpm : p = m
      · subst hpm; rw [h3] at hp2; exact absurd z0 hp2
      · rw [(ho p hp1 hpe hpm).1] at hp2 ⊢
        exact h.ok p hp1 hp2
  · rw [hlen] at hp1 hq1
    have key : ∀ p, p < l.length → (nd l' p).f0.f0 ≠ 0 → ∃ s, s < l.length ∧ (nd l' p).f0 = (nd l s).f0 ∧ ((p = e ∧ s = m) ∨ (p ≠ e ∧ p ≠ m ∧ s = p)) := by
      intro p hp1 hp2
      by_cases hpe : p = e
      · subst hpe; exact ⟨m, hml, h1, .inl ⟨rfl, rfl⟩⟩
      · by_cases hpm : p = m
        · subst hpm; rw [h3] at hp2; exact absurd z0 hp2
        · exact ⟨p, hp1, (ho p hp1 hpe hpm).1, .inr ⟨hpe, hpm, rfl⟩⟩
    obtain ⟨s, hs1, hs2, hs3⟩ := key p hp1 hp2
    obtain ⟨t, ht1, ht2, ht3⟩ := key q hq1 (by rw [← hpq]; exact hp2)
    have hst := h.dist s t hs1 ht1 (by rw [← hs2]; exact hp2) (by rw [← hs2, ← ht2]; exact hpq)
    omega
  · have hA := count_one (fun p => decide ((nd l p).f0.f0 ≠ 0)) (fun p => if p = e then true else decide ((nd l p).f0.f0 ≠ 0)) e l.length (fun p _ hpe => if_neg hpe) (fun _ => ⟨decide_eq_false (fun hn => hn he), if_pos rfl⟩)
    have hB := count_one (fun p => decide ((nd l' p).f0.f0 ≠ 0)) (fun p => if p = e then true else decide ((nd l p).f0.f0 ≠ 0)) m l.length (fun p hp1 hpm => by
      by_cases hpe : p = e
      · subst hpe; simp only [if_pos, h1]; exact (decide_eq_true hm).symm
      · simp only [if_neg hpe]; rw [(ho p hp1 hpe hpm).1]) (fun _ => ⟨by simp only [h3]; exact decide_eq_false (fun hn => hn z0), by simp only [if_neg (Ne.symm hem)]; exact decide_eq_true hm⟩)
    rw [if_pos hel] at hA
    rw [if_pos hml] at hB
    unfold cnt
    rw [hlen]
    omega
  · rw [hlen] at hp1
    by_cases hpe : p = e
    · subst hpe; exact ⟨m, hml, h1.symm.trans hp2, h2.symm.trans hp3⟩
    · by_cases hpm : p = m
      · subst hpm; rw [h3] at hp2; exact absurd (by rw [← hp2]; exact z0) hx
      · exact ⟨p, hp1, (ho p hp1 hpe hpm).1.symm.trans hp2, (ho p hp1 hpe hpm).2.symm.trans hp3⟩
  · by_cases hpe : p = e
    · subst hpe; exact absurd (by rw [← hp2]; exact he) hx
    · by_cases hpm : p = m
      · subst hpm; exact ⟨e, by omega, h1.trans hp2, h2.trans hp3⟩
      · exact ⟨p, by omega, (ho p hp1 hpe hpm).1.trans hp2, (ho p hp1 hpe hpm).2.trans hp3⟩
end Go.Proofs.Ytlmmhlabacghnaa.PH
