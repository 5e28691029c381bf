/- nodes, plain: the search; room; a new key. -/
import Derived.Test.YtlmmhlabacghnaaNV
namespace Go.Proofs.Ytlmmhlabacghnaa.PH
open Go.RowKit Go.Proofs.YtlmmhlabacghnaaW.PrintWords Go.Proofs.YtlmmhlabacghnaaW.PrintLast Go.Proofs.YtlmmhlabacghnaaW.PrintMore
open Go.Proofs.Ytlmmhlabacghnaa.HM
set_option linter.unusedVariables false
set_option linter.unusedSimpArgs false

theorem Inv.nil {l : List Nd} {f : Nat} {C : Nat → List Nat} (h : Inv l f C) {m : Nat} (hm : m < l.length) (hn : (nd l m).f0.f0 = 0) : C m = [] := by
  rcases h.head m with h1 | ⟨t, h1⟩
  · exact h1
  · exact absurd hn (h.mem m m (by rw [h1]; simp)).2.1
theorem Inv.other {l : List Nd} {f : Nat} {C : Nat → List Nat} (h : Inv l f C) {m : Nat} (hm : hp l.length (nd l m).f0 ≠ m) : C m = [] := by
  rcases h.head m with h1 | ⟨t, h1⟩
  · exact h1
  · exact absurd (h.mem m m (by rw [h1]; simp)).2.2 hm
/-- The search of a key in form: where the key is, and how many nodes are read. -/
theorem Inv.find {l : List Nd} {f : Nat} {C : Nat → List Nat} (h : Inv l f C) {k : Ky} (hk : KeyOk k) : ∃ at_ r, findL l k (l.length + 1) (hp l.length k) 1 = some (at_, r) ∧ 1 ≤ r ∧ r ≤ l.length ∧
    ((∃ p A B, p < l.length ∧ (nd l p).f0 = k ∧ at_ = (p : Int) ∧ C (hp l.length k) = A ++ p :: B ∧ r = 1 + A.length) ∨ (at_ = -1 ∧ ∀ p, p < l.length → (nd l p).f0 ≠ k)) := by
  have hs := h.small
  obtain ⟨m, hm⟩ : ∃ m, hp l.length k = m := ⟨_, rfl⟩
  have hml : m < l.length := hm ▸ hp_lt h.pow k
  rw [hm]
  by_cases hn : (nd l m).f0.f0 = 0
  · have hz := h.emp m hml hn
    refine ⟨-1, 1, ?_, by omega, by omega, .inr ⟨rfl, fun p hp1 e => ?_⟩⟩
    · unfold findL
      rw [if_pos hml]
      have e0 : ¬ eqk (nd l m).f0 k = true := fun e => hk.2 (by rw [← eqk_iff.1 e]; exact hn)
      rw [if_neg e0, if_pos (show (nd l m).f2 = 0 by rw [hz]; rfl)]
    · have h2 := h.all p hp1 (by rw [e]; exact hk.2)
      rw [e, hm, h.nil hml hn] at h2
      simp at h2
  · obtain ⟨o, ho⟩ : ∃ o, hp l.length (nd l m).f0 = o := ⟨_, rfl⟩
    have hmo := h.all m hml hn
    rw [ho] at hmo
    obtain ⟨A, B, hAB⟩ := List.append_of_mem hmo
    have hlk := h.link o
    have hnd := h.nodup o
    have hlen := h.len o
    rw [hAB] at hlk hnd hlen
    rw [List.length_append, List.length_cons] at hlen
    have hmem : ∀ x ∈ m :: B, x < l.length := fun x hx => (h.mem o x (by rw [hAB]; exact List.mem_append.2 (.inr hx))).1
    have hf := find_chain l k hs.2 B m 1 (l.length + 1) (Linked.suffix A hlk) hmem (List.nodup_append.1 hnd).2.1 (by omega) (by omega) (by omega)
    by_cases hh : ∃ p, p < l.length ∧ (nd l p).f0 = k
    · obtain ⟨p, hp1, hpk⟩ := hh
      have h2 := h.all p hp1 (by rw [hpk]; exact hk.2)
      rw [hpk, hm] at h2
      have hom : o = m := by
        rcases h.head m with h3 | ⟨t, h3⟩
        · rw [h3] at h2; simp at h2
        · have := (h.mem m m (by rw [h3]; simp)).2.2
          rw [ho] at this
          exact this
      have hA : A = [] := by
        rw [hom] at hAB
        rcases h.head m with h3 | ⟨t, h3⟩
        · rw [h3] at hAB; simp at hAB
        · cases A with
          | nil => rfl
          | cons a A =>
            rw [h3] at hAB
            simp only [List.cons_append, List.cons.injEq] at hAB
            rw [← hAB.1] at hnd
            simp at hnd
      subst hA
      rw [hom, List.nil_append] at hAB
      obtain ⟨A2, B2, e1, e2⟩ := srch_found l k (m :: B) 1 p (by rw [← hAB]; exact h2) hpk (fun q hq e => h.dist q p (hmem q hq) hp1 (by rw [e]; exact hk.2) (by rw [e, hpk]))
      rw [e2] at hf
      have hl2 : (m :: B).length = A2.length + (B2.length + 1) := by rw [e1]; simp
      rw [List.length_cons] at hl2
      exact ⟨_, _, hf, by omega, by simp at hlen; omega, .inl ⟨p, A2, B2, hp1, hpk, rfl, by rw [hAB, e1], rfl⟩⟩
    · have h2 := srch_none l k (m :: B) 1 (fun q hq e => hh ⟨q, hmem q hq, e⟩) (by simp)
      rw [h2] at hf
      refine ⟨_, _, hf, ?_, ?_, .inr ⟨rfl, fun p hp1 e => hh ⟨p, hp1, e⟩⟩⟩
      · rw [List.length_cons]; omega
      · rw [List.length_cons]; omega

theorem room_none (l : List Nd) : ∀ f, (∀ p, p < f → (nd l p).f0.f0 ≠ 0) → roomL l f = (-1, 0)
  | 0, _ => rfl
  | f + 1, h => by
    unfold roomL
    rw [if_neg (h f (Nat.lt_succ_self f))]
    exact room_none l f (fun p hp1 => h p (Nat.lt_succ_of_lt hp1))
theorem room_some (l : List Nd) : ∀ f p, p < f → (nd l p).f0.f0 = 0 → ∃ fi : Nat, roomL l f = ((fi : Int), fi) ∧ fi < f ∧ (nd l fi).f0.f0 = 0 ∧ ∀ q, fi < q → q < f → (nd l q).f0.f0 ≠ 0
  | 0, p, h, _ => absurd h (Nat.not_lt_zero _)
  | f + 1, p, h, hz => by
    unfold roomL
    by_cases hf : (nd l f).f0.f0 = 0
    · rw [if_pos hf]
      exact ⟨f, rfl, Nat.lt_succ_self f, hf, fun q h1 h2 => by omega⟩
    · rw [if_neg hf]
      have hpf : p < f := by
        have : p ≠ f := fun e => hf (e ▸ hz)
        omega
      obtain ⟨fi, e1, e2, e3, e4⟩ := room_some l f p hpf hz
      refine ⟨fi, e1, by omega, e3, fun q h1 h2 => ?_⟩
      by_cases hq : q = f
      · exact hq ▸ hf
      · exact e4 q h1 (by omega)

theorem ahead_chain (l : List Nd) (m : Nat) (hl : l.length ≤ 65536) : ∀ (A : List Nat) (p q n : Nat) (B : List Nat), True → Linked l (p :: A ++ m :: B) → (∀ x ∈ p :: A ++ m :: B, x < l.length) → (p :: A ++ m :: B).Nodup → A.length < n → (p :: A).getLast (by simp) = q → aheadL l m n p = some q
  | [], p, q, 0, B, _, _, _, _, hn, _ => by simp at hn
  | [], p, q, n + 1, B, _, h, hm, hd, hn, hq => by
    have e : (p : Int) + (nd l p).f2 = m := h.1
    have h1 := hm p (by simp)
    have h2 := hm m (by simp)
    have hq' : p = q := hq
    unfold aheadL
    rw [if_pos ⟨h1, by omega, by omega⟩, if_pos e, hq']
  | a :: A, p, q, 0, B, _, _, _, _, hn, _ => by simp at hn
  | a :: A, p, q, n + 1, B, _, h, hm, hd, hn, hq => by
    have e : (p : Int) + (nd l p).f2 = a := h.1
    have h1 := hm p (by simp)
    have h2 := hm a (by simp)
    have ham : a ≠ m := by
      intro e2
      subst e2
      simp at hd
    unfold aheadL
    rw [if_pos ⟨h1, by omega, by omega⟩, if_neg (by omega), if_pos (by omega), e]
    exact ahead_chain l m hl A a q n B trivial h.2 (fun x hx => hm x (List.mem_cons_of_mem _ hx)) (List.nodup_cons.1 hd).2 (by simp only [List.length_cons] at hn; omega) hq
end Go.Proofs.Ytlmmhlabacghnaa.PH
