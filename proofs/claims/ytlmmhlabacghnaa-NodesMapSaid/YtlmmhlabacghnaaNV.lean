/- nodes, plain: chains; what the search finds. -/
import Derived.Test.YtlmmhlabacghnaaNU
namespace Go.Proofs.Ytlmmhlabacghnaa.PH
open Go.RowKit Go.Proofs.YtlmmhlabacghnaaW.PrintWords Go.Proofs.YtlmmhlabacghnaaW.PrintLast Go.Proofs.YtlmmhlabacghnaaW.PrintMore
open Go.Proofs.Ytlmmhlabacghnaa.HM
set_option linter.unusedVariables false
set_option linter.unusedSimpArgs false

abbrev Nd := S67
abbrev Ky := S30
/-- The main position among N. -/
def hp (N : Nat) (k : Ky) : Nat := (plc k.f0 k.f1 k.f2 N).toNat
/-- A key in form. -/
def KeyOk (k : Ky) : Prop := okB k.f0 k.f1 k.f2 = true ∧ k.f0 ≠ 0
theorem hp_main {N : Nat} (h : Pow N) {k : Ky} (hk : KeyOk k) : hash_Main.f k.f0 k.f1 k.f2 N = some (((hp N k : Nat) : Int), 0) := by
  have h1 := pow_range h
  have h2 := plc_range (kd := k.f0) (n := k.f1) (s := k.f2) h
  rw [Main_eq (by omega)]
  unfold mainOf hp
  rw [if_pos hk.1, if_pos h, if_neg hk.2, Int.toNat_of_nonneg h2.1]
theorem hp_lt {N : Nat} (h : Pow N) (k : Ky) : hp N k < N := by
  have h2 := plc_range (kd := k.f0) (n := k.f1) (s := k.f2) h
  unfold hp
  omega

theorem nd_set (l : List Nd) (i : Nat) (x : Nd) (j : Nat) : nd (l.set i x) j = if i = j ∧ i < l.length then x else nd l j := by
  unfold nd
  rw [List.getD_eq_getElem?_getD, List.getD_eq_getElem?_getD, List.getElem?_set]
  by_cases h : i = j
  · subst h
    by_cases h2 : i < l.length
    · rw [if_pos rfl, if_pos h2, if_pos ⟨rfl, h2⟩]; rfl
    · rw [if_pos rfl, if_neg h2, if_neg (by omega), List.getElem?_eq_none (by omega)]
  · rw [if_neg h, if_neg (by omega)]
theorem nd_ne (l : List Nd) {i j : Nat} (x : Nd) (h : i ≠ j) : nd (l.set i x) j = nd l j := by rw [nd_set, if_neg (by omega)]
theorem nd_eq (l : List Nd) {i : Nat} (x : Nd) (h : i < l.length) : nd (l.set i x) i = x := by rw [nd_set, if_pos ⟨rfl, h⟩]

/-- Each node leads to the next; the last one to none. -/
def Linked (l : List Nd) : List Nat → Prop
  | [] => True
  | p :: s => (match s with | [] => (nd l p).f2 = 0 | q :: _ => (p : Int) + (nd l p).f2 = q) ∧ Linked l s
theorem Linked.congr {l l' : List Nd} : ∀ {s : List Nat}, Linked l s → (∀ p ∈ s, (nd l' p).f2 = (nd l p).f2) → Linked l' s
  | [], _, _ => trivial
  | p :: [], h, he => ⟨by have := h.1; show (nd l' p).f2 = 0; rw [he p (by simp)]; exact this, trivial⟩
  | p :: q :: t, h, he => ⟨by have := h.1; show (p : Int) + (nd l' p).f2 = q; rw [he p (by simp)]; exact this, Linked.congr h.2 (fun x hx => he x (List.mem_cons_of_mem _ hx))⟩
theorem Linked.suffix {l : List Nd} : ∀ (A : List Nat) {s : List Nat}, Linked l (A ++ s) → Linked l s
  | [], _, h => h
  | a :: A, s, h => Linked.suffix A h.2
theorem Linked.mid {l l' : List Nd} {q m f : Nat} {B : List Nat} : ∀ (A : List Nat), Linked l (A ++ q :: m :: B) → (∀ p ∈ A, (nd l' p).f2 = (nd l p).f2) → (q : Int) + (nd l' q).f2 = f → Linked l' (f :: B) → Linked l' (A ++ q :: f :: B)
  | [], h, _, hq, hf => ⟨hq, hf⟩
  | [a], h, he, hq, hf => ⟨by have := h.1; show (a : Int) + (nd l' a).f2 = q; rw [he a (by simp)]; exact this, Linked.mid [] h.2 (fun _ h => by simp at h) hq hf⟩
  | a :: b :: A, h, he, hq, hf => ⟨by have := h.1; show (a : Int) + (nd l' a).f2 = b; rw [he a (by simp)]; exact this, Linked.mid (b :: A) h.2 (fun x hx => he x (List.mem_cons_of_mem _ hx)) hq hf⟩

structure Inv (l : List Nd) (f : Nat) (C : Nat → List Nat) : Prop where
  pow : Pow l.length
  fle : f ≤ l.length
  free : ∀ p, f ≤ p → p < l.length → (nd l p).f0.f0 ≠ 0
  emp : ∀ p, p < l.length → (nd l p).f0.f0 = 0 → nd l p = z67
  ok : ∀ p, p < l.length → (nd l p).f0.f0 ≠ 0 → okB (nd l p).f0.f0 (nd l p).f0.f1 (nd l p).f0.f2 = true
  dist : ∀ p q, p < l.length → q < l.length → (nd l p).f0.f0 ≠ 0 → (nd l p).f0 = (nd l q).f0 → p = q
  mem : ∀ m p, p ∈ C m → p < l.length ∧ (nd l p).f0.f0 ≠ 0 ∧ hp l.length (nd l p).f0 = m
  all : ∀ p, p < l.length → (nd l p).f0.f0 ≠ 0 → p ∈ C (hp l.length (nd l p).f0)
  head : ∀ m, C m = [] ∨ ∃ t, C m = m :: t
  nodup : ∀ m, (C m).Nodup
  link : ∀ m, Linked l (C m)

theorem Inv.small {l : List Nd} {f : Nat} {C : Nat → List Nat} (h : Inv l f C) : 1 ≤ l.length ∧ l.length ≤ 65536 := by
  have := pow_range h.pow
  omega
theorem Inv.key {l : List Nd} {f : Nat} {C : Nat → List Nat} (h : Inv l f C) {p : Nat} (hp' : p < l.length) (hn : (nd l p).f0.f0 ≠ 0) : KeyOk (nd l p).f0 := ⟨h.ok p hp' hn, hn⟩

/-- Where the key is in a list of nodes. -/
def srch (l : List Nd) (k : Ky) : List Nat → Int → Int × Int
  | [], r => (-1, r)
  | p :: t, r => if eqk (nd l p).f0 k = true then ((p : Int), r) else match t with | [] => (-1, r) | _ :: _ => srch l k t (r + 1)
theorem find_chain (l : List Nd) (k : Ky) (hl : l.length ≤ 65536) : ∀ (s : List Nat) (p : Nat) (r : Int) (n : Nat), Linked l (p :: s) → (∀ x ∈ p :: s, x < l.length) → (p :: s).Nodup → s.length < n → 0 ≤ r → r + s.length ≤ 1000000 → findL l k n p r = some (srch l k (p :: s) r)
  | s, p, r, 0, _, _, _, hn, _, _ => by omega
  | [], p, r, n + 1, h, hm, hd, hn, h0, hr => by
    have e : (nd l p).f2 = 0 := h.1
    unfold findL srch
    rw [if_pos (hm p (by simp)), if_pos e]
    by_cases he : eqk (nd l p).f0 k = true
    · rw [if_pos he, if_pos he]
    · rw [if_neg he, if_neg he]
  | q :: s, p, r, n + 1, h, hm, hd, hn, h0, hr => by
    have e : (p : Int) + (nd l p).f2 = q := h.1
    have hpq : p ≠ q := by
      intro e2
      subst e2
      simp at hd
    have hql := hm q (by simp)
    unfold findL srch
    rw [if_pos (hm p (by simp)), if_neg (by omega : ¬ (nd l p).f2 = 0), if_pos (show 0 ≤ (p : Int) + (nd l p).f2 ∧ (p : Int) + (nd l p).f2 ≤ 65536 ∧ r ≤ 4611686018427387904 by simp only [List.length_cons] at hr; omega)]
    by_cases he : eqk (nd l p).f0 k = true
    · rw [if_pos he, if_pos he]
    · rw [if_neg he, if_neg he, e]
      exact find_chain l k hl s q (r + 1) n h.2 (fun x hx => hm x (List.mem_cons_of_mem _ hx)) (List.nodup_cons.1 hd).2 (by simp only [List.length_cons] at hn; omega) (by omega) (by simp only [List.length_cons] at hr; omega)
theorem eqk_refl (k : Ky) : eqk k k = true := by simp [eqk]
theorem eqk_iff {x y : Ky} : eqk x y = true ↔ x = y := ⟨eqk_true, fun h => by rw [h]; exact eqk_refl _⟩
/-- It is found where it is. -/
theorem srch_found (l : List Nd) (k : Ky) : ∀ (s : List Nat) (r : Int) (p : Nat), p ∈ s → (nd l p).f0 = k → (∀ q ∈ s, (nd l q).f0 = k → q = p) → ∃ A B, s = A ++ p :: B ∧ srch l k s r = ((p : Int), r + A.length)
  | [], r, p, h, _, _ => by simp at h
  | q :: t, r, p, h, hk, hu => by
    by_cases he : (nd l q).f0 = k
    · have := hu q (by simp) he
      subst this
      refine ⟨[], t, rfl, ?_⟩
      unfold srch
      rw [if_pos (eqk_iff.2 he)]
      simp
    · have hpt : p ∈ t := by
        rcases List.mem_cons.1 h with h1 | h1
        · subst h1; exact absurd hk he
        · exact h1
      obtain ⟨A, B, e1, e2⟩ := srch_found l k t (r + 1) p hpt hk (fun x hx => hu x (List.mem_cons_of_mem _ hx))
      refine ⟨q :: A, B, by rw [e1]; rfl, ?_⟩
      unfold srch
      rw [if_neg (fun h => he (eqk_iff.1 h))]
      cases t with
      | nil => simp at hpt
      | cons a t =>
        simp only
        rw [e2]
        simp only [List.length_cons, Int.natCast_add, Prod.mk.injEq, true_and]
        omega
theorem srch_none (l : List Nd) (k : Ky) : ∀ (s : List Nat) (r : Int), (∀ q ∈ s, (nd l q).f0 ≠ k) → s ≠ [] → srch l k s r = (-1, r + s.length - 1)
  | [], r, _, h => absurd rfl h
  | [p], r, h, _ => by
    unfold srch
    rw [if_neg (fun e => h p (by simp) (eqk_iff.1 e))]
    simp
  | p :: q :: t, r, h, _ => by
    unfold srch
    rw [if_neg (fun e => h p (by simp) (eqk_iff.1 e))]
    simp only
    rw [srch_none l k (q :: t) (r + 1) (fun x hx => h x (List.mem_cons_of_mem _ hx)) (by simp)]
    simp only [List.length_cons, Prod.mk.injEq, true_and]
    omega
theorem nodup_len : ∀ (N : Nat) (s : List Nat), s.Nodup → (∀ x ∈ s, x < N) → s.length ≤ N
  | 0, [], _, _ => Nat.le_refl _
  | 0, x :: t, _, h => absurd (h x (by simp)) (Nat.not_lt_zero _)
  | N + 1, s, hd, h => by
    by_cases hN : N ∈ s
    · have h1 := nodup_len N (s.erase N) (hd.erase N) (fun x hx => by
        have h2 := (hd.mem_erase_iff).1 hx
        have h3 := h x h2.2
        omega)
      rw [List.length_erase_of_mem hN] at h1
      omega
    · have h1 := nodup_len N s hd (fun x hx => by
        have h3 := h x hx
        have : x ≠ N := fun e => hN (e ▸ hx)
        omega)
      omega
theorem Inv.len {l : List Nd} {f : Nat} {C : Nat → List Nat} (h : Inv l f C) (m : Nat) : (C m).length ≤ l.length := by
  exact nodup_len l.length (C m) (h.nodup m) (fun p hp' => (h.mem m p hp').1)
end Go.Proofs.Ytlmmhlabacghnaa.PH
