/- nodes, plain: a new key goes in where a node of another chain stands. -/
import Derived.Test.YtlmmhlabacghnaaNY
namespace Go.Proofs.Ytlmmhlabacghnaa.PH
open Go.RowKit Go.Proofs.YtlmmhlabacghnaaW.PrintWords Go.Proofs.YtlmmhlabacghnaaW.PrintLast Go.Proofs.YtlmmhlabacghnaaW.PrintMore
open Go.Proofs.Ytlmmhlabacghnaa.HM
set_option linter.unusedVariables false
set_option linter.unusedSimpArgs false

theorem Inv.put_d {l : List Nd} {f : Nat} {C : Nat → List Nat} (h : Inv l f C) {k v : Ky} (hk : KeyOk k) (hnew : ∀ p, p < l.length → (nd l p).f0 ≠ k) (hn : ¬ (nd l (hp l.length k)).f0.f0 = 0) (o : Nat) (ho : hp l.length (nd l (hp l.length k)).f0 = o) (hom : o ≠ hp l.length k)
    (fi : Nat) (hr : roomL l f = ((fi : Int), fi)) (hff : fi < f) (hfz : (nd l fi).f0.f0 = 0) (hfr : ∀ q, fi < q → q < f → (nd l q).f0.f0 ≠ 0) : Put1 l f k v (hp l.length k) := by
  obtain ⟨m, hm⟩ : ∃ m, hp l.length k = m := ⟨_, rfl⟩
  have hml : m < l.length := hm ▸ hp_lt h.pow k
  have hs := h.small
  have hfle := h.fle
  rw [hm] at hn ho hom ⊢
  have hfl : fi < l.length := by omega
  have hfm : fi ≠ m := fun e => hn (e ▸ hfz)
  have hmC : m ∈ C o := by have := h.all m hml hn; rwa [ho] at this
  have hCm0 : C m = [] := h.other (by rw [ho]; exact hom)
  -- the chain: o, ..., q, m, B
  obtain ⟨t, ht⟩ : ∃ t, C o = o :: t := by
    rcases h.head o with h1 | h1
    · rw [h1] at hmC; simp at hmC
    · exact h1
  have hmt : m ∈ t := by
    rw [ht] at hmC
    rcases List.mem_cons.1 hmC with e | e
    · exact absurd e.symm hom
    · exact e
  obtain ⟨A, B, hAB⟩ := List.append_of_mem hmt
  have hlk := h.link o
  have hnd := h.nodup o
  have hCo : C o = (o :: A) ++ m :: B := by rw [ht, hAB]; rfl
  rw [hCo] at hlk hnd
  have hmem : ∀ x ∈ (o :: A) ++ m :: B, x < l.length := fun x hx => (h.mem o x (by rw [hCo]; exact hx)).1
  have hlenC := h.len o
  rw [hCo] at hlenC
  simp only [List.length_append, List.length_cons] at hlenC
  obtain ⟨q, hq⟩ : ∃ q, (o :: A).getLast (by simp) = q := ⟨_, rfl⟩
  obtain ⟨D, hD⟩ : ∃ D, o :: A = D ++ [q] := ⟨(o :: A).dropLast, by rw [← hq]; exact (List.dropLast_concat_getLast (by simp)).symm⟩
  have hah := ahead_chain l m hs.2 A o q (l.length + 1) B trivial hlk hmem hnd (by omega) hq
  have hCo2 : C o = D ++ q :: m :: B := by rw [hCo, hD]; simp
  rw [hD] at hlk hnd
  have hlk2 : Linked l (D ++ q :: m :: B) := by have := hlk; simpa using this
  have hnd2 : (D ++ q :: m :: B).Nodup := by have := hnd; simpa using this
  have hqC : q ∈ C o := by rw [hCo2]; simp
  have hqm : q ≠ m := by
    intro e
    subst e
    have := (List.nodup_append.1 hnd2).2.1
    simp at this
  have hqf : q ≠ fi := fun e => (h.mem o q hqC).2.1 (e ▸ hfz)
  have hql := (h.mem o q hqC).1
  have hlm : Linked l (m :: B) := (Linked.suffix D hlk2).2
  have hx : -65536 ≤ (nd l m).f2 ∧ (nd l m).f2 ≤ 65536 := by
    cases B with
    | nil => have e : (nd l m).f2 = 0 := hlm.1; omega
    | cons b B =>
      have e : (m : Int) + (nd l m).f2 = b := hlm.1
      have := (h.mem o b (by rw [hCo2]; simp)).1
      omega
  have hom2 : hash_Main.f (nd l m).f0.f0 (nd l m).f0.f1 (nd l m).f0.f2 l.length = some ((o : Int), 0) := by
    have := hp_main h.pow (h.key hml hn)
    rwa [ho] at this
  have hins := Ins.d (n := ⟨k, v, 0⟩) hn fi hr ⟨hfl, hfm⟩ o hom2 hom hx (l.length + 1) q hah
  obtain ⟨x, hxx⟩ : ∃ x, (if (nd l m).f2 = 0 then 0 else (m : Int) + (nd l m).f2 - fi) = x := ⟨_, rfl⟩
  rw [hxx] at hins
  obtain ⟨L, hL⟩ : ∃ L, ((l.set q (⟨(nd l q).f0, (nd l q).f1, (fi : Int) - q⟩ : Nd)).set fi (⟨(nd l m).f0, (nd l m).f1, x⟩ : Nd)).set m (⟨k, v, 0⟩ : Nd) = L := ⟨_, rfl⟩
  have hlen : L.length = l.length := by rw [← hL, List.length_set, List.length_set, List.length_set]
  have v1 : nd L m = ⟨k, v, 0⟩ := by rw [← hL]; exact nd_eq _ _ (by rw [List.length_set, List.length_set]; exact hml)
  have v2 : nd L fi = ⟨(nd l m).f0, (nd l m).f1, x⟩ := by rw [← hL, nd_ne _ _ (Ne.symm hfm)]; exact nd_eq _ _ (by rw [List.length_set]; exact hfl)
  have v4 : nd L q = ⟨(nd l q).f0, (nd l q).f1, (fi : Int) - q⟩ := by rw [← hL, nd_ne _ _ (Ne.symm hqm), nd_ne _ _ (Ne.symm hqf)]; exact nd_eq _ _ hql
  have v3 : ∀ p, p ≠ m → p ≠ fi → p ≠ q → nd L p = nd l p := fun p h1 h2 h3 => by rw [← hL, nd_ne _ _ (Ne.symm h1), nd_ne _ _ (Ne.symm h2), nd_ne _ _ (Ne.symm h3)]
  have v3k : ∀ p, p ≠ m → p ≠ fi → (nd L p).f0 = (nd l p).f0 ∧ (nd L p).f1 = (nd l p).f1 := fun p h1 h2 => by
    by_cases h3 : p = q
    · rw [h3, v4]; exact ⟨rfl, rfl⟩
    · rw [v3 p h1 h2 h3]; exact ⟨rfl, rfl⟩
  have hins' : Ins l f ⟨k, v, 0⟩ m L fi 0 := by rw [← hL]; exact hins
  clear hins hL
  -- first the node at m moves to fi
  obtain ⟨l2, hl2⟩ : ∃ l2, (l.set fi (⟨(nd l m).f0, (nd l m).f1, 0⟩ : Nd)).set m z67 = l2 := ⟨_, rfl⟩
  have g0 : l2.length = l.length := by rw [← hl2, List.length_set, List.length_set]
  have g1 : nd l2 m = z67 := by rw [← hl2]; exact nd_eq _ _ (by rw [List.length_set]; exact hml)
  have g2 : nd l2 fi = ⟨(nd l m).f0, (nd l m).f1, 0⟩ := by rw [← hl2, nd_ne _ _ (Ne.symm hfm)]; exact nd_eq _ _ hfl
  have g3 : ∀ p, p ≠ m → p ≠ fi → nd l2 p = nd l p := fun p h1 h2 => by rw [← hl2, nd_ne _ _ (Ne.symm h1), nd_ne _ _ (Ne.symm h2)]
  clear hl2
  obtain ⟨hK2, hc2, hh2⟩ := h.keys.move (l' := l2) g0 hfl hml hfm hfz hn (by rw [g2]) (by rw [g2]) g1 (fun p _ h1 h2 => by rw [g3 p h2 h1]; exact ⟨rfl, rfl⟩) (fun p _ h1 h2 _ => g3 p h2 h1)
  obtain ⟨hK, hc, hh⟩ := hK2.add (l' := L) hk (v := v) (e := m) (fun p hp1 => by
    rw [g0] at hp1
    by_cases hpm : p = m
    · rw [hpm, g1]; intro e; exact hk.2 (by rw [← e]; rfl)
    · by_cases hpf : p = fi
      · rw [hpf, g2]; exact hnew m hml
      · rw [g3 p hpm hpf]; exact hnew p hp1) (by rw [hlen, g0]) (by rw [g0]; exact hml) (by rw [g1]; rfl) (by rw [v1]) (by rw [v1]) (fun p _ hpm => by
    by_cases hpf : p = fi
    · rw [hpf, g2, v2]; exact ⟨rfl, rfl⟩
    · rw [g3 p hpm hpf]; exact v3k p hpm hpf) (fun p _ hpm hz => by
    by_cases hpf : p = fi
    · rw [hpf, g2] at hz; exact absurd hz hn
    · rw [g3 p hpm hpf] at hz ⊢
      have hpq : p ≠ q := fun e => (h.mem o q hqC).2.1 (e ▸ hz)
      exact v3 p hpm hpf hpq)
  refine ⟨L, fi, fun j => if j = o then D ++ q :: fi :: B else if j = m then [m] else C j, hins', ?_, by omega, hlen, by rw [hc, hc2], fun x u hx1 => by rw [hh x u hx1, hh2 x u hx1]⟩
  have hCj : ∀ j p, j ≠ o → p ∈ C j → p ≠ m ∧ p ≠ fi ∧ p ≠ q := fun j p hj hp1 => by
    have h1 := h.mem j p hp1
    refine ⟨fun e => ?_, fun e => ?_, fun e => ?_⟩
    · rw [e, ho] at h1; exact hj h1.2.2.symm
    · rw [e] at h1; exact h1.2.1 hfz
    · rw [e] at h1; exact hj (h1.2.2.symm.trans (h.mem o q hqC).2.2)
  have hfC : fi ∉ C o := fun e => (h.mem o fi e).2.1 hfz
  have hD' : ∀ p, p ∈ D → p ≠ m ∧ p ≠ fi ∧ p ≠ q := fun p hp1 => by
    have hpC : p ∈ C o := by rw [hCo2]; exact List.mem_append.2 (.inl hp1)
    have hdis := (List.nodup_append.1 hnd2).2.2
    refine ⟨fun e => ?_, fun e => ?_, fun e => ?_⟩
    · exact hdis p hp1 m (by simp) e
    · exact hfC (e ▸ hpC)
    · exact hdis p hp1 q (by simp) e
  have hB' : ∀ p, p ∈ B → p ≠ m ∧ p ≠ fi ∧ p ≠ q := fun p hp1 => by
    have hpC : p ∈ C o := by rw [hCo2]; simp [hp1]
    have h3 := (List.nodup_append.1 hnd2).2.1
    rw [List.nodup_cons, List.nodup_cons] at h3
    refine ⟨fun e => ?_, fun e => ?_, fun e => ?_⟩
    · exact h3.2.1 (e ▸ hp1)
    · exact hfC (e ▸ hpC)
    · exact h3.1 (List.mem_cons_of_mem _ (e ▸ hp1))
  refine ⟨by rw [hlen]; exact h.pow, by rw [hlen]; omega, fun p hp1 hp2 => ?_, hK.emp, hK.ok, hK.dist, fun j p hj => ?_, fun p hp1 hp2 => ?_, fun j => ?_, fun j => ?_, fun j => ?_⟩
  · rw [hlen] at hp2
    by_cases hpm : p = m
    · rw [hpm, v1]; exact hk.2
    · by_cases hpf : p = fi
      · rw [hpf, v2]; exact hn
      · rw [(v3k p hpm hpf).1]
        by_cases hq : p < f
        · exact hfr p (by omega) hq
        · exact h.free p (by omega) hp2
  · rw [hlen]
    by_cases hjo : j = o
    · rw [if_pos hjo] at hj
      rw [hjo]
      have hmm : p = fi ∨ (p ∈ C o ∧ p ≠ m) := by
        rcases List.mem_append.1 hj with hj | hj
        · exact .inr ⟨by rw [hCo2]; exact List.mem_append.2 (.inl hj), (hD' p hj).1⟩
        · rcases List.mem_cons.1 hj with e | hj
          · exact .inr ⟨e ▸ hqC, e ▸ hqm⟩
          · rcases List.mem_cons.1 hj with e | hj
            · exact .inl e
            · exact .inr ⟨by rw [hCo2]; simp [hj], (hB' p hj).1⟩
      rcases hmm with e | ⟨hpC, hpm⟩
      · rw [e, v2]; exact ⟨hfl, hn, ho⟩
      · have hpf : p ≠ fi := fun e => hfC (e ▸ hpC)
        rw [(v3k p hpm hpf).1]
        exact h.mem o p hpC
    · rw [if_neg hjo] at hj
      by_cases hjm : j = m
      · rw [if_pos hjm] at hj
        have : p = m := by simpa using hj
        rw [this, v1, hjm]
        exact ⟨hml, hk.2, hm⟩
      · rw [if_neg hjm] at hj
        have h1 := hCj j p hjo hj
        rw [v3 p h1.1 h1.2.1 h1.2.2]
        exact h.mem j p hj
  · rw [hlen] at hp1
    rw [hlen]
    by_cases hpm : p = m
    · rw [hpm, v1]
      simp only [hm]
      rw [if_neg (Ne.symm hom)]
      simp
    · by_cases hpf : p = fi
      · rw [hpf, v2]
        simp only [ho]
        simp
      · rw [(v3k p hpm hpf).1] at hp2 ⊢
        have h1 := h.all p hp1 hp2
        by_cases h2 : hp l.length (nd l p).f0 = o
        · rw [if_pos h2]
          rw [h2, hCo2] at h1
          rcases List.mem_append.1 h1 with h1 | h1
          · exact List.mem_append.2 (.inl h1)
          · rcases List.mem_cons.1 h1 with e | h1
            · rw [e]; simp
            · rcases List.mem_cons.1 h1 with e | h1
              · exact absurd e hpm
              · simp [h1]
        · rw [if_neg h2]
          have h3 : hp l.length (nd l p).f0 ≠ m := fun e => by rw [e, hCm0] at h1; simp at h1
          rw [if_neg h3]
          exact h1
  · by_cases hjo : j = o
    · simp only [if_pos hjo]
      refine .inr ?_
      cases D with
      | nil =>
        simp only [List.nil_append, List.cons.injEq] at hD
        exact ⟨fi :: B, by rw [hjo, hD.1]; rfl⟩
      | cons d D =>
        simp only [List.cons_append, List.cons.injEq] at hD
        exact ⟨D ++ q :: fi :: B, by rw [hjo, hD.1]; rfl⟩
    · by_cases hjm : j = m
      · simp only [if_neg hjo, if_pos hjm]; exact .inr ⟨[], by rw [hjm]⟩
      · simp only [if_neg hjo, if_neg hjm]; exact h.head j
  · by_cases hjo : j = o
    · simp only [if_pos hjo]
      obtain ⟨n1, n2, n3⟩ := List.nodup_append.1 hnd2
      rw [List.nodup_cons, List.nodup_cons] at n2
      refine List.nodup_append.2 ⟨n1, List.nodup_cons.2 ⟨fun hp1 => ?_, List.nodup_cons.2 ⟨fun hp1 => (hB' fi hp1).2.1 rfl, n2.2.2⟩⟩, fun a ha b hb => ?_⟩
      · rcases List.mem_cons.1 hp1 with e | hp1
        · exact hqf e
        · exact (hB' q hp1).2.2 rfl
      · rcases List.mem_cons.1 hb with e | hb
        · rw [e]; exact (hD' a ha).2.2
        · rcases List.mem_cons.1 hb with e | hb
          · rw [e]; exact (hD' a ha).2.1
          · exact n3 a ha b (by simp [hb])
    · by_cases hjm : j = m
      · simp only [if_neg hjo, if_pos hjm]; simp
      · simp only [if_neg hjo, if_neg hjm]; exact h.nodup j
  · by_cases hjo : j = o
    · simp only [if_pos hjo]
      refine Linked.mid D hlk2 (fun p hp1 => by rw [v3 p (hD' p hp1).1 (hD' p hp1).2.1 (hD' p hp1).2.2]) (by rw [v4]; simp only; omega) ?_
      cases B with
      | nil =>
        have e : (nd l m).f2 = 0 := hlm.1
        refine ⟨?_, trivial⟩
        show (nd L fi).f2 = 0
        rw [v2, ← hxx, if_pos e]
      | cons b B =>
        have e : (m : Int) + (nd l m).f2 = b := hlm.1
        have hbm := (hB' b (by simp)).1
        refine ⟨?_, hlm.2.congr (fun p hp1 => by rw [v3 p (hB' p hp1).1 (hB' p hp1).2.1 (hB' p hp1).2.2])⟩
        show (fi : Int) + (nd L fi).f2 = b
        rw [v2, ← hxx, if_neg (by omega)]
        simp only
        omega
    · by_cases hjm : j = m
      · simp only [if_neg hjo, if_pos hjm]
        exact ⟨by show (nd L m).f2 = 0; rw [v1], trivial⟩
      · simp only [if_neg hjo, if_neg hjm]
        exact (h.link j).congr (fun p hp1 => by rw [v3 p (hCj j p hjo hp1).1 (hCj j p hjo hp1).2.1 (hCj j p hjo hp1).2.2])

/-- A new key goes in while there is a node without a key; else none does. -/
theorem Inv.put {l : List Nd} {f : Nat} {C : Nat → List Nat} (h : Inv l f C) {k v : Ky} (hk : KeyOk k) (hnew : ∀ p, p < l.length → (nd l p).f0 ≠ k) :
    (cnt l < l.length ∧ Put1 l f k v (hp l.length k)) ∨ (cnt l = l.length ∧ Ins l f ⟨k, v, 0⟩ (hp l.length k) l 0 12 ∧ Inv l 0 C) := by
  have hml := hp_lt h.pow k
  by_cases ha : ∀ p, p < l.length → (nd l p).f0.f0 ≠ 0
  · refine .inr ⟨cnt_all ha, ?_, { h with fle := Nat.zero_le _, free := fun p _ hp1 => ha p hp1 }⟩
    have hr := room_none l f (fun p hp1 => ha p (Nat.lt_of_lt_of_le hp1 h.fle))
    have := Ins.b (n := ⟨k, v, 0⟩) (f := f) (ha _ hml) (by rw [hr])
    rwa [hr] at this
  · obtain ⟨p, hp1, hp2⟩ : ∃ p, p < l.length ∧ (nd l p).f0.f0 = 0 := by
      by_cases hx : ∃ p, p < l.length ∧ (nd l p).f0.f0 = 0
      · exact hx
      · exact absurd (fun p h1 h2 => hx ⟨p, h1, h2⟩) ha
    have hpf : p < f := by
      by_cases hx : p < f
      · exact hx
      · exact absurd hp2 (h.free p (by omega) hp1)
    have key : Put1 l f k v (hp l.length k) := by
      by_cases hn : (nd l (hp l.length k)).f0.f0 = 0
      · exact h.put_a hk hnew hn
      · obtain ⟨fi, e1, e2, e3, e4⟩ := room_some l f p hpf hp2
        by_cases ho : hp l.length (nd l (hp l.length k)).f0 = hp l.length k
        · exact h.put_c hk hnew hn ho fi e1 e2 e3 e4
        · exact h.put_d hk hnew hn _ rfl ho fi e1 e2 e3 e4
    refine .inl ⟨?_, key⟩
    have h1 : cnt l ≤ l.length := by
      unfold cnt
      have := List.countP_le_length (p := fun p => decide ((nd l p).f0.f0 ≠ 0)) (l := List.range l.length)
      rwa [List.length_range] at this
    have h2 : cnt l ≠ l.length := fun e => cnt_full e p hp1 hp2
    omega
end Go.Proofs.Ytlmmhlabacghnaa.PH
