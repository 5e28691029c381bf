/- nodes, plain: a new key goes in; what holds goes on holding. -/
import Derived.Test.YtlmmhlabacghnaaNX
namespace Go.Proofs.Ytlmmhlabacghnaa.PH
open Go.RowKit Go.Proofs.YtlmmhlabacghnaaW.PrintWords Go.Proofs.YtlmmhlabacghnaaW.PrintLast Go.Proofs.YtlmmhlabacghnaaW.PrintMore
open Go.Proofs.Ytlmmhlabacghnaa.HM
set_option linter.unusedVariables false
set_option linter.unusedSimpArgs false

/-- What an insertion that goes through answers. -/
def Put1 (l : List Nd) (f : Nat) (k v : Ky) (m : Nat) : Prop := ∃ (l' : List Nd) (f' : Nat) (C' : Nat → List Nat), Ins l f ⟨k, v, 0⟩ m l' f' 0 ∧ Inv l' f' C' ∧ f' ≤ f ∧ l'.length = l.length ∧ cnt l' = cnt l + 1 ∧ ∀ x u, x.f0 ≠ 0 → (has l' x u ↔ (x = k ∧ u = v) ∨ has l x u)

theorem Inv.put_a {l : List Nd} {f : Nat} {C : Nat → List Nat} (h : Inv l f C) {k v : Ky} (hk : KeyOk k) (hnew : ∀ p, p < l.length → (nd l p).f0 ≠ k) (hn : (nd l (hp l.length k)).f0.f0 = 0) : Put1 l f k v (hp l.length k) := by
  obtain ⟨m, hm⟩ : ∃ m, hp l.length k = m := ⟨_, rfl⟩
  have hml : m < l.length := hm ▸ hp_lt h.pow k
  rw [hm] at hn ⊢
  have hC := h.nil hml hn
  have v1 := nd_eq l (⟨k, v, 0⟩ : Nd) hml
  have v2 : ∀ p, p ≠ m → nd (l.set m (⟨k, v, 0⟩ : Nd)) p = nd l p := fun p hpm => nd_ne l _ (Ne.symm hpm)
  have hlen : (l.set m (⟨k, v, 0⟩ : Nd)).length = l.length := List.length_set ..
  obtain ⟨hK, hc, hh⟩ := h.keys.add hk hnew hlen hml hn (v := v) (by rw [v1]) (by rw [v1]) (fun p _ hpm => by rw [v2 p hpm]; exact ⟨rfl, rfl⟩) (fun p _ hpm _ => v2 p hpm)
  refine ⟨_, f, fun j => if j = m then [m] else C j, .a hn, ?_, Nat.le_refl _, hlen, hc, hh⟩
  have hCm : ∀ j p, j ≠ m → p ∈ C j → p ≠ m := fun j p hj hp1 e => by
    subst e
    exact absurd hn (h.mem j p hp1).2.1
  generalize hL : l.set m (⟨k, v, 0⟩ : Nd) = L at *
  refine ⟨by rw [hlen]; exact h.pow, by rw [hlen]; exact h.fle, fun p hp1 hp2 => ?_, hK.emp, hK.ok, hK.dist, fun j p hj => ?_, fun p hp1 hp2 => ?_, fun j => ?_, fun j => ?_, fun j => ?_⟩
  · by_cases hpm : p = m
    · rw [hpm, v1]; exact hk.2
    · rw [v2 p hpm]; exact h.free p hp1 (by omega)
  · by_cases hjm : j = m
    · rw [if_pos hjm] at hj
      have : p = m := by simpa using hj
      rw [this, v1, hlen, hjm]
      exact ⟨hml, hk.2, hm⟩
    · rw [if_neg hjm] at hj
      rw [v2 p (hCm j p hjm hj), hlen]
      exact h.mem j p hj
  · rw [hlen] at hp1
    rw [hlen]
    by_cases hpm : p = m
    · rw [hpm, v1, hm, if_pos rfl]; simp
    · rw [v2 p hpm] at hp2 ⊢
      have h1 := h.all p hp1 hp2
      have h2 : hp l.length (nd l p).f0 ≠ m := fun e => by rw [e, hC] at h1; simp at h1
      rw [if_neg h2]
      exact h1
  · by_cases hjm : j = m
    · simp only [if_pos hjm]; exact .inr ⟨[], by rw [hjm]⟩
    · simp only [if_neg hjm]; exact h.head j
  · by_cases hjm : j = m
    · simp only [if_pos hjm]; simp
    · simp only [if_neg hjm]; exact h.nodup j
  · by_cases hjm : j = m
    · simp only [if_pos hjm]
      exact ⟨by show (nd L m).f2 = 0; rw [v1], trivial⟩
    · simp only [if_neg hjm]
      exact (h.link j).congr (fun p hp1 => by rw [v2 p (hCm j p hjm hp1)])

theorem Inv.put_c {l : List Nd} {f : Nat} {C : Nat → List Nat} (h : Inv l f C) {k v : Ky} (hk : KeyOk k) (hnew : ∀ p, p < l.length → (nd l p).f0 ≠ k) (hn : ¬ (nd l (hp l.length k)).f0.f0 = 0) (ho : hp l.length (nd l (hp l.length k)).f0 = hp l.length k)
    (fi : Nat) (hr : roomL l f = ((fi : Int), fi)) (hff : fi < f) (hfz : (nd l fi).f0.f0 = 0) (hfr : ∀ q, fi < q → q < f → (nd l q).f0.f0 ≠ 0) : Put1 l f k v (hp l.length k) := by
  obtain ⟨m, hm⟩ : ∃ m, hp l.length k = m := ⟨_, rfl⟩
  have hml : m < l.length := hm ▸ hp_lt h.pow k
  have hs := h.small
  have hfle := h.fle
  rw [hm] at hn ho ⊢
  have hfl : fi < l.length := by omega
  have hfm : fi ≠ m := fun e => hn (e ▸ hfz)
  have hmC : m ∈ C m := by have := h.all m hml hn; rwa [ho] at this
  obtain ⟨t, ht⟩ : ∃ t, C m = m :: t := by
    rcases h.head m with h1 | h1
    · rw [h1] at hmC; simp at hmC
    · exact h1
  have hlk := h.link m
  have hnd := h.nodup m
  rw [ht] at hlk hnd
  have hx : -65536 ≤ (nd l m).f2 ∧ (nd l m).f2 ≤ 65536 := by
    cases t with
    | nil => have e : (nd l m).f2 = 0 := hlk.1; omega
    | cons q t =>
      have e : (m : Int) + (nd l m).f2 = q := hlk.1
      have := (h.mem m q (by rw [ht]; simp)).1
      omega
  have hom : hash_Main.f (nd l m).f0.f0 (nd l m).f0.f1 (nd l m).f0.f2 l.length = some ((m : Int), 0) := by
    have := hp_main h.pow (h.key hml hn)
    rwa [ho] at this
  have hins := Ins.c (n := ⟨k, v, 0⟩) hn fi hr ⟨hfl, hfm⟩ hom hx
  obtain ⟨x, hxx⟩ : ∃ x, (if (nd l m).f2 = 0 then 0 else (m : Int) + (nd l m).f2 - fi) = x := ⟨_, rfl⟩
  rw [hxx] at hins
  have hlen : ((l.set fi (⟨k, v, x⟩ : Nd)).set m (⟨(nd l m).f0, (nd l m).f1, (fi : Int) - m⟩ : Nd)).length = l.length := by rw [List.length_set, List.length_set]
  have v1 : nd ((l.set fi (⟨k, v, x⟩ : Nd)).set m (⟨(nd l m).f0, (nd l m).f1, (fi : Int) - m⟩ : Nd)) m = ⟨(nd l m).f0, (nd l m).f1, (fi : Int) - m⟩ := nd_eq _ _ (by rw [List.length_set]; exact hml)
  have v2 : nd ((l.set fi (⟨k, v, x⟩ : Nd)).set m (⟨(nd l m).f0, (nd l m).f1, (fi : Int) - m⟩ : Nd)) fi = ⟨k, v, x⟩ := by rw [nd_ne _ _ (Ne.symm hfm)]; exact nd_eq _ _ hfl
  have v3 : ∀ p, p ≠ m → p ≠ fi → nd ((l.set fi (⟨k, v, x⟩ : Nd)).set m (⟨(nd l m).f0, (nd l m).f1, (fi : Int) - m⟩ : Nd)) p = nd l p := fun p h1 h2 => by rw [nd_ne _ _ (Ne.symm h1), nd_ne _ _ (Ne.symm h2)]
  have hins' : Ins l f ⟨k, v, 0⟩ m ((l.set fi (⟨k, v, x⟩ : Nd)).set m (⟨(nd l m).f0, (nd l m).f1, (fi : Int) - m⟩ : Nd)) fi 0 := hins
  clear hins
  generalize hL : (l.set fi (⟨k, v, x⟩ : Nd)).set m (⟨(nd l m).f0, (nd l m).f1, (fi : Int) - m⟩ : Nd) = L at *
  clear hL
  obtain ⟨hK, hc, hh⟩ := h.keys.add (l' := L) hk hnew hlen hfl hfz (v := v) (by rw [v2]) (by rw [v2]) (fun p _ hpf => by
    by_cases hpm : p = m
    · rw [hpm, v1]; exact ⟨rfl, rfl⟩
    · rw [v3 p hpm hpf]; exact ⟨rfl, rfl⟩) (fun p _ hpf hz => by
    by_cases hpm : p = m
    · subst hpm; exact absurd hz hn
    · exact v3 p hpm hpf)
  refine ⟨L, fi, fun j => if j = m then m :: fi :: t else C j, hins', ?_, by omega, hlen, hc, hh⟩
  have hCm : ∀ j p, j ≠ m → p ∈ C j → p ≠ m ∧ p ≠ fi := fun j p hj hp1 => by
    have h1 := h.mem j p hp1
    refine ⟨fun e => ?_, fun e => ?_⟩
    · rw [e, ho] at h1; exact hj h1.2.2.symm
    · rw [e] at h1; exact h1.2.1 hfz
  have htm : ∀ p, p ∈ t → p ≠ m ∧ p ≠ fi := fun p hp1 => by
    refine ⟨fun e => ?_, fun e => ?_⟩
    · subst e; exact (List.nodup_cons.1 hnd).1 hp1
    · subst e; exact (h.mem m p (by rw [ht]; exact List.mem_cons_of_mem _ hp1)).2.1 hfz
  refine ⟨by rw [hlen]; exact h.pow, by rw [hlen]; omega, fun p hp1 hp2 => ?_, hK.emp, hK.ok, hK.dist, fun j p hj => ?_, fun p hp1 hp2 => ?_, fun j => ?_, fun j => ?_, fun j => ?_⟩
  · rw [hlen] at hp2
    by_cases hpf : p = fi
    · rw [hpf, v2]; exact hk.2
    · by_cases hpm : p = m
      · rw [hpm, v1]; exact hn
      · rw [v3 p hpm hpf]
        by_cases hq : p < f
        · exact hfr p (by omega) hq
        · exact h.free p (by omega) hp2
  · rw [hlen]
    by_cases hjm : j = m
    · rw [if_pos hjm] at hj
      rw [hjm]
      rcases List.mem_cons.1 hj with e | hj
      · rw [e, v1]; exact ⟨hml, hn, ho⟩
      · rcases List.mem_cons.1 hj with e | hj
        · rw [e, v2]; exact ⟨hfl, hk.2, hm⟩
        · rw [v3 p (htm p hj).1 (htm p hj).2]
          exact h.mem m p (by rw [ht]; exact List.mem_cons_of_mem _ hj)
    · rw [if_neg hjm] at hj
      rw [v3 p (hCm j p hjm hj).1 (hCm j p hjm hj).2]
      exact h.mem j p hj
  · rw [hlen] at hp1
    rw [hlen]
    by_cases hpf : p = fi
    · rw [hpf, v2, hm, if_pos rfl]; simp
    · by_cases hpm : p = m
      · rw [hpm, v1]; simp only [ho, if_pos]; simp
      · rw [v3 p hpm hpf] at hp2 ⊢
        have h1 := h.all p hp1 hp2
        by_cases h2 : hp l.length (nd l p).f0 = m
        · rw [if_pos h2]
          rw [h2, ht] at h1
          rcases List.mem_cons.1 h1 with e | h1
          · exact absurd e hpm
          · exact List.mem_cons_of_mem _ (List.mem_cons_of_mem _ h1)
        · rw [if_neg h2]; exact h1
  · by_cases hjm : j = m
    · simp only [if_pos hjm]; exact .inr ⟨_, by rw [hjm]⟩
    · simp only [if_neg hjm]; exact h.head j
  · by_cases hjm : j = m
    · simp only [if_pos hjm]
      rw [List.nodup_cons] at hnd
      refine List.nodup_cons.2 ⟨fun hp1 => ?_, List.nodup_cons.2 ⟨fun hp1 => ?_, hnd.2⟩⟩
      · rcases List.mem_cons.1 hp1 with e | hp1
        · exact hfm e.symm
        · exact hnd.1 hp1
      · exact (htm fi hp1).2 rfl
    · simp only [if_neg hjm]; exact h.nodup j
  · by_cases hjm : j = m
    · simp only [if_pos hjm]
      refine ⟨by show (m : Int) + (nd L m).f2 = fi; rw [v1]; simp only; omega, ?_⟩
      cases t with
      | nil =>
        have e : (nd l m).f2 = 0 := hlk.1
        refine ⟨?_, trivial⟩
        show (nd L fi).f2 = 0
        rw [v2, ← hxx, if_pos e]
      | cons q t =>
        have e : (m : Int) + (nd l m).f2 = q := hlk.1
        have hqm := (htm q (by simp)).1
        refine ⟨?_, hlk.2.congr (fun p hp1 => by rw [v3 p (htm p hp1).1 (htm p hp1).2])⟩
        show (fi : Int) + (nd L fi).f2 = q
        rw [v2, ← hxx, if_neg (by omega)]
        simp only
        omega
    · simp only [if_neg hjm]
      exact (h.link j).congr (fun p hp1 => by rw [v3 p (hCm j p hjm hp1).1 (hCm j p hjm hp1).2])
end Go.Proofs.Ytlmmhlabacghnaa.PH
