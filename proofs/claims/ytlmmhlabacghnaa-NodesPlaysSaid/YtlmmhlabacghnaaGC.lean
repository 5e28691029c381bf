import Derived.Test.YtlmmhlabacghnaaGB
import Derived.Lib.BufferMore
/- nodes: Dump. -/
namespace Go.Proofs.Ytlmmhlabacghnaa.PH
open Go.RowKit Go.Proofs.YtlmmhlabacghnaaW.PrintWords Go.Proofs.YtlmmhlabacghnaaW.PrintLast Go.Proofs.YtlmmhlabacghnaaW.PrintMore
set_option linter.unusedVariables false
set_option linter.unusedSimpArgs false

theorem infoN : (Try.prog.info? 67).map (fun i => (i.zero, i.size, i.bytes)) = some (some (nv z67), 7, 72) := by kernel_rfl
set_option maxHeartbeats 4000000 in
set_option maxRecDepth 100000 in
theorem clone_call {B g a cap : Nat} {l : List S67} {f : Int} {w : World} (h : IsP B g a cap l f w) :
    Calls Try.prog 81 #[.slice (some ⟨a, 0, none⟩) l.length cap] w fun e w' => ∃ v, e = .returned v ∧ Kd.R k67 67 w' w.heap.size (fun k => w.heap.size ≤ k) v l ∧ Below w.heap.size w w' := by
  have H := Lib.hid h
  clear h
  go_enter Try.func81, Try.ntmps81
  have hu75 := Try.underlying75
  have hnil : ∀ W, (binOp .eql 75 (.slice (some ⟨a, 0, none⟩) l.length cap) (.slice none 0 0)).run Try.prog W = .ok (.bool false) W := fun W => Lib.run_eql_slice_some_nil W _ _ _ hu75
  have u75 : ∀ w, Sem.run Try.prog (underlying 75) w = .ok (TypeDesc.slice 67) w := run_underlying hu75
  go_wp2_with (first | ((with_reducible refine gate_builtin (b := .append) (xs := #[.tmp 5, .tmp 6]) rfl ?_); at_builtin; refine Kd.R_append_rows k67 (Rr := k67.K (w.alloc (.cells #[] 67))) (w0 := w) (W := w.alloc (.cells #[] 67)) w.heap.size rfl (.tmp 5) (.tmp 6) 75 67 (nv z67) 72 rfl hu75 infoN rfl (by decide) (by decide) _ [] l (some ⟨a, 0, none⟩) l.length cap (fun k => w.heap.size ≤ k) (fun _ => False) rfl rfl ?rO ?rR (fun _ _ h => h) (fun _ hk => hk.elim) ?rF ?rB ?rS ?rL ?_))
  case rO =>
    refine ⟨fun k hk => ?_, [], World.ownsRow_made w #[] 0 (Nat.le_refl _) (Nat.zero_le _) rfl, Reps.none _ _⟩
    have : w.heap.size = k := by
      have e : some w.heap.size = some k := hk
      exact Option.some.inj e
    omega
  case rR => exact Kd.C_below (Kd.R_reads' H.out.row).2.2 (below_alloc (Below.refl _ _) _)
  case rF => intro k hk; rw [World.size_alloc] at hk; omega
  case rB => exact below_alloc (Below.refl _ _) _
  case rS => rw [World.size_alloc]; omega
  case rL => have := H.out.len; simp; omega
  intro v1 w1 hR hb hg hv
  have Q := Lib.hid (And.intro hR hb)
  clear hR hb hg hv
  go_wp2_with fail
  go_ret
  exact ⟨_, rfl, Q.out⟩
set_option maxHeartbeats 4000000 in
set_option maxRecDepth 100000 in
theorem dump_call {B g a cap : Nat} {l : List S67} {f : Int} {w : World} (h : IsP B g a cap l f w) :
    Calls Try.prog 52 #[.pointer (some ⟨g, 0, none⟩)] w fun e w' => ∃ v, e = .returned v ∧ Kd.R k67 67 w' w.heap.size (fun k => w.heap.size ≤ k) v l ∧ Below w.heap.size w w' := by
  obtain ⟨x0, x1, y0, y1⟩ := two_of h.blk
  have H := Lib.hid h
  clear h
  go_enter Try.func52, Try.ntmps52
  go_wp2_with fail
  refine (clone_call H.out).mono ?_
  rintro e w1 ⟨v, rfl, hR, hb⟩
  have Q := Lib.hid (And.intro hR hb)
  clear hR hb
  go_wp2_with fail
  go_ret
  exact ⟨_, rfl, Q.out⟩
end Go.Proofs.Ytlmmhlabacghnaa.PH
/- nodes, plain: chains; what the search finds. -/
namespace Go.Proofs.Ytlmmhlabacghnaa.PH
open Go.RowKit Go.Proofs.YtlmmhlabacghnaaW.PrintWords Go.Proofs.YtlmmhlabacghnaaW.PrintLast Go.Proofs.YtlmmhlabacghnaaW.PrintMore
open Go.Proofs.Ytlmmhlabacghnaa.HM
set_option linter.unusedVariables false
set_option linter.unusedSimpArgs false

abbrev Nd := S67
abbrev Ky := S30
/-- The main position among N. -/
def hp (N : Nat) (k : Ky) : Nat := (plc k.f0 k.f1 k.f2 N).toNat
/-- A key in form. -/
def KeyOk (k : Ky) : Prop := okB k.f0 k.f1 k.f2 = true ∧ k.f0 ≠ 0
theorem hp_main {N : Nat} (h : Pow N) {k : Ky} (hk : KeyOk k) : hash_Main.f k.f0 k.f1 k.f2 N = some (((hp N k : Nat) : Int), 0) := by
  have h1 := pow_range h
  have h2 := plc_range (kd := k.f0) (n := k.f1) (s := k.f2) h
  rw [Main_eq (by omega)]
  unfold mainOf hp
  rw [if_pos hk.1, if_pos h, if_neg hk.2, Int.toNat_of_nonneg h2.1]
theorem hp_lt {N : Nat} (h : Pow N) (k : Ky) : hp N k < N := by
  have h2 := plc_range (kd := k.f0) (n := k.f1) (s := k.f2) h
  unfold hp
  omega

theorem nd_set (l : List Nd) (i : Nat) (x : Nd) (j : Nat) : nd (l.set i x) j = if i = j ∧ i < l.length then x else nd l j := by
  unfold nd
  rw [List.getD_eq_getElem?_getD, List.getD_eq_getElem?_getD, List.getElem?_set]
  by_cases h : i = j
  · subst h
    by_cases h2 : i < l.length
    · rw [if_pos rfl, if_pos h2, if_pos ⟨rfl, h2⟩]; rfl
    · rw [if_pos rfl, if_neg h2, if_neg (by omega), List.getElem?_eq_none (by omega)]
  · rw [if_neg h, if_neg (by omega)]
theorem nd_ne (l : List Nd) {i j : Nat} (x : Nd) (h : i ≠ j) : nd (l.set i x) j = nd l j := by rw [nd_set, if_neg (by omega)]
theorem nd_eq (l : List Nd) {i : Nat} (x : Nd) (h : i < l.length) : nd (l.set i x) i = x := by rw [nd_set, if_pos ⟨rfl, h⟩]

/-- Each node leads to the next; the last one to none. -/
def Linked (l : List Nd) : List Nat → Prop
  | [] => True
  | p :: s => (match s with | [] => (nd l p).f2 = 0 | q :: _ => (p : Int) + (nd l p).f2 = q) ∧ Linked l s
theorem Linked.congr {l l' : List Nd} : ∀ {s : List Nat}, Linked l s → (∀ p ∈ s, (nd l' p).f2 = (nd l p).f2) → Linked l' s
  | [], _, _ => trivial
  | p :: [], h, he => ⟨by have := h.1; show (nd l' p).f2 = 0; rw [he p (by simp)]; exact this, trivial⟩
  | p :: q :: t, h, he => ⟨by have := h.1; show (p : Int) + (nd l' p).f2 = q; rw [he p (by simp)]; exact this, Linked.congr h.2 (fun x hx => he x (List.mem_cons_of_mem _ hx))⟩
theorem Linked.suffix {l : List Nd} : ∀ (A : List Nat) {s : List Nat}, Linked l (A ++ s) → Linked l s
  | [], _, h => h
  | a :: A, s, h => Linked.suffix A h.2
theorem Linked.mid {l l' : List Nd} {q m f : Nat} {B : List Nat} : ∀ (A : List Nat), Linked l (A ++ q :: m :: B) → (∀ p ∈ A, (nd l' p).f2 = (nd l p).f2) → (q : Int) + (nd l' q).f2 = f → Linked l' (f :: B) → Linked l' (A ++ q :: f :: B)
  | [], h, _, hq, hf => ⟨hq, hf⟩
  | [a], h, he, hq, hf => ⟨by have := h.1; show (a : Int) + (nd l' a).f2 = q; rw [he a (by simp)]; exact this, Linked.mid [] h.2 (fun _ h => by simp at h) hq hf⟩
  | a :: b :: A, h, he, hq, hf => ⟨by have := h.1; show (a : Int) + (nd l' a).f2 = b; rw [he a (by simp)]; exact this, Linked.mid (b :: A) h.2 (fun x hx => he x (List.mem_cons_of_mem _ hx)) hq hf⟩

structure Inv (l : List Nd) (f : Nat) (C : Nat → List Nat) : Prop where
  pow : Pow l.length
  fle : f ≤ l.length
  free : ∀ p, f ≤ p → p < l.length → (nd l p).f0.f0 ≠ 0
  emp : ∀ p, p < l.length → (nd l p).f0.f0 = 0 → nd l p = z67
  ok : ∀ p, p < l.length → (nd l p).f0.f0 ≠ 0 → okB (nd l p).f0.f0 (nd l p).f0.f1 (nd l p).f0.f2 = true
  dist : ∀ p q, p < l.length → q < l.length → (nd l p).f0.f0 ≠ 0 → (nd l p).f0 = (nd l q).f0 → p = q
  mem : ∀ m p, p ∈ C m → p < l.length ∧ (nd l p).f0.f0 ≠ 0 ∧ hp l.length (nd l p).f0 = m
  all : ∀ p, p < l.length → (nd l p).f0.f0 ≠ 0 → p ∈ C (hp l.length (nd l p).f0)
  head : ∀ m, C m = [] ∨ ∃ t, C m = m :: t
  nodup : ∀ m, (C m).Nodup
  link : ∀ m, Linked l (C m)

theorem Inv.small {l : List Nd} {f : Nat} {C : Nat → List Nat} (h : Inv l f C) : 1 ≤ l.length ∧ l.length ≤ 65536 := by
  have := pow_range h.pow
  omega
theorem Inv.key {l : List Nd} {f : Nat} {C : Nat → List Nat} (h : Inv l f C) {p : Nat} (hp' : p < l.length) (hn : (nd l p).f0.f0 ≠ 0) : KeyOk (nd l p).f0 := ⟨h.ok p hp' hn, hn⟩

/-- Where the key is in a list of nodes. -/
def srch (l : List Nd) (k : Ky) : List Nat → Int → Int × Int
  | [], r => (-1, r)
  | p :: t, r => if eqk (nd l p).f0 k = true then ((p : Int), r) else match t with | [] => (-1, r) | _ :: _ => srch l k t (r + 1)
theorem find_chain (l : List Nd) (k : Ky) (hl : l.length ≤ 65536) : ∀ (s : List Nat) (p : Nat) (r : Int) (n : Nat), Linked l (p :: s) → (∀ x ∈ p :: s, x < l.length) → (p :: s).Nodup → s.length < n → 0 ≤ r → r + s.length ≤ 1000000 → findL l k n p r = some (srch l k (p :: s) r)
  | s, p, r, 0, _, _, _, hn, _, _ => by omega
  | [], p, r, n + 1, h, hm, hd, hn, h0, hr => by
    have e : (nd l p).f2 = 0 := h.1
    unfold findL srch
    rw [if_pos (hm p (by simp)), if_pos e]
    by_cases he : eqk (nd l p).f0 k = true
    · rw [if_pos he, if_pos he]
    · rw [if_neg he, if_neg he]
  | q :: s, p, r, n + 1, h, hm, hd, hn, h0, hr => by
    have e : (p : Int) + (nd l p).f2 = q := h.1
    have hpq : p ≠ q := by
      intro e2
      subst e2
      simp at hd
    have hql := hm q (by simp)
    unfold findL srch
    rw [if_pos (hm p (by simp)), if_neg (by omega : ¬ (nd l p).f2 = 0), if_pos (show 0 ≤ (p : Int) + (nd l p).f2 ∧ (p : Int) + (nd l p).f2 ≤ 65536 ∧ r ≤ 4611686018427387904 by simp only [List.length_cons] at hr; omega)]
    by_cases he : eqk (nd l p).f0 k = true
    · rw [if_pos he, if_pos he]
    · rw [if_neg he, if_neg he, e]
      exact find_chain l k hl s q (r + 1) n h.2 (fun x hx => hm x (List.mem_cons_of_mem _ hx)) (List.nodup_cons.1 hd).2 (by simp only [List.length_cons] at hn; omega) (by omega) (by simp only [List.length_cons] at hr; omega)
theorem eqk_refl (k : Ky) : eqk k k = true := by simp [eqk]
theorem eqk_iff {x y : Ky} : eqk x y = true ↔ x = y := ⟨eqk_true, fun h => by rw [h]; exact eqk_refl _⟩
/-- It is found where it is. -/
theorem srch_found (l : List Nd) (k : Ky) : ∀ (s : List Nat) (r : Int) (p : Nat), p ∈ s → (nd l p).f0 = k → (∀ q ∈ s, (nd l q).f0 = k → q = p) → ∃ A B, s = A ++ p :: B ∧ srch l k s r = ((p : Int), r + A.length)
  | [], r, p, h, _, _ => by simp at h
  | q :: t, r, p, h, hk, hu => by
    by_cases he : (nd l q).f0 = k
    · have := hu q (by simp) he
      subst this
      refine ⟨[], t, rfl, ?_⟩
      unfold srch
      rw [if_pos (eqk_iff.2 he)]
      simp
    · have hpt : p ∈ t := by
        rcases List.mem_cons.1 h with h1 | h1
        · subst h1; exact absurd hk he
        · exact h1
      obtain ⟨A, B, e1, e2⟩ := srch_found l k t (r + 1) p hpt hk (fun x hx => hu x (List.mem_cons_of_mem _ hx))
      refine ⟨q :: A, B, by rw [e1]; rfl, ?_⟩
      unfold srch
      rw [if_neg (fun h => he (eqk_iff.1 h))]
      cases t with
      | nil => simp at hpt
      | cons a t =>
        simp only
        rw [e2]
        simp only [List.length_cons, Int.natCast_add, Prod.mk.injEq, true_and]
        omega
theorem srch_none (l : List Nd) (k : Ky) : ∀ (s : List Nat) (r : Int), (∀ q ∈ s, (nd l q).f0 ≠ k) → s ≠ [] → srch l k s r = (-1, r + s.length - 1)
  | [], r, _, h => absurd rfl h
  | [p], r, h, _ => by
    unfold srch
    rw [if_neg (fun e => h p (by simp) (eqk_iff.1 e))]
    simp
  | p :: q :: t, r, h, _ => by
    unfold srch
    rw [if_neg (fun e => h p (by simp) (eqk_iff.1 e))]
    simp only
    rw [srch_none l k (q :: t) (r + 1) (fun x hx => h x (List.mem_cons_of_mem _ hx)) (by simp)]
    simp only [List.length_cons, Prod.mk.injEq, true_and]
    omega
theorem nodup_len : ∀ (N : Nat) (s : List Nat), s.Nodup → (∀ x ∈ s, x < N) → s.length ≤ N
  | 0, [], _, _ => Nat.le_refl _
  | 0, x :: t, _, h => absurd (h x (by simp)) (Nat.not_lt_zero _)
  | N + 1, s, hd, h => by
    by_cases hN : N ∈ s
    · have h1 := nodup_len N (s.erase N) (hd.erase N) (fun x hx => by
        have h2 := (hd.mem_erase_iff).1 hx
        have h3 := h x h2.2
        omega)
      rw [List.length_erase_of_mem hN] at h1
      omega
    · have h1 := nodup_len N s hd (fun x hx => by
        have h3 := h x hx
        have : x ≠ N := fun e => hN (e ▸ hx)
        omega)
      omega
theorem Inv.len {l : List Nd} {f : Nat} {C : Nat → List Nat} (h : Inv l f C) (m : Nat) : (C m).length ≤ l.length := by
  exact nodup_len l.length (C m) (h.nodup m) (fun p hp' => (h.mem m p hp').1)
end Go.Proofs.Ytlmmhlabacghnaa.PH
/- nodes, plain: the search; room; a new key. -/
namespace Go.Proofs.Ytlmmhlabacghnaa.PH
open Go.RowKit Go.Proofs.YtlmmhlabacghnaaW.PrintWords Go.Proofs.YtlmmhlabacghnaaW.PrintLast Go.Proofs.YtlmmhlabacghnaaW.PrintMore
open Go.Proofs.Ytlmmhlabacghnaa.HM
set_option linter.unusedVariables false
set_option linter.unusedSimpArgs false

theorem Inv.nil {l : List Nd} {f : Nat} {C : Nat → List Nat} (h : Inv l f C) {m : Nat} (hm : m < l.length) (hn : (nd l m).f0.f0 = 0) : C m = [] := by
  rcases h.head m with h1 | ⟨t, h1⟩
  · exact h1
  · exact absurd hn (h.mem m m (by rw [h1]; simp)).2.1
theorem Inv.other {l : List Nd} {f : Nat} {C : Nat → List Nat} (h : Inv l f C) {m : Nat} (hm : hp l.length (nd l m).f0 ≠ m) : C m = [] := by
  rcases h.head m with h1 | ⟨t, h1⟩
  · exact h1
  · exact absurd (h.mem m m (by rw [h1]; simp)).2.2 hm
/-- The search of a key in form: where the key is, and how many nodes are read. -/
theorem Inv.find {l : List Nd} {f : Nat} {C : Nat → List Nat} (h : Inv l f C) {k : Ky} (hk : KeyOk k) : ∃ at_ r, findL l k (l.length + 1) (hp l.length k) 1 = some (at_, r) ∧ 1 ≤ r ∧ r ≤ l.length ∧
    ((∃ p A B, p < l.length ∧ (nd l p).f0 = k ∧ at_ = (p : Int) ∧ C (hp l.length k) = A ++ p :: B ∧ r = 1 + A.length) ∨ (at_ = -1 ∧ ∀ p, p < l.length → (nd l p).f0 ≠ k)) := by
  have hs := h.small
  obtain ⟨m, hm⟩ : ∃ m, hp l.length k = m := ⟨_, rfl⟩
  have hml : m < l.length := hm ▸ hp_lt h.pow k
  rw [hm]
  by_cases hn : (nd l m).f0.f0 = 0
  · have hz := h.emp m hml hn
    refine ⟨-1, 1, ?_, by omega, by omega, .inr ⟨rfl, fun p hp1 e => ?_⟩⟩
    · unfold findL
      rw [if_pos hml]
      have e0 : ¬ eqk (nd l m).f0 k = true := fun e => hk.2 (by rw [← eqk_iff.1 e]; exact hn)
      rw [if_neg e0, if_pos (show (nd l m).f2 = 0 by rw [hz]; rfl)]
    · have h2 := h.all p hp1 (by rw [e]; exact hk.2)
      rw [e, hm, h.nil hml hn] at h2
      simp at h2
  · obtain ⟨o, ho⟩ : ∃ o, hp l.length (nd l m).f0 = o := ⟨_, rfl⟩
    have hmo := h.all m hml hn
    rw [ho] at hmo
    obtain ⟨A, B, hAB⟩ := List.append_of_mem hmo
    have hlk := h.link o
    have hnd := h.nodup o
    have hlen := h.len o
    rw [hAB] at hlk hnd hlen
    rw [List.length_append, List.length_cons] at hlen
    have hmem : ∀ x ∈ m :: B, x < l.length := fun x hx => (h.mem o x (by rw [hAB]; exact List.mem_append.2 (.inr hx))).1
    have hf := find_chain l k hs.2 B m 1 (l.length + 1) (Linked.suffix A hlk) hmem (List.nodup_append.1 hnd).2.1 (by omega) (by omega) (by omega)
    by_cases hh : ∃ p, p < l.length ∧ (nd l p).f0 = k
    · obtain ⟨p, hp1, hpk⟩ := hh
      have h2 := h.all p hp1 (by rw [hpk]; exact hk.2)
      rw [hpk, hm] at h2
      have hom : o = m := by
        rcases h.head m with h3 | ⟨t, h3⟩
        · rw [h3] at h2; simp at h2
        · have := (h.mem m m (by rw [h3]; simp)).2.2
          rw [ho] at this
          exact this
      have hA : A = [] := by
        rw [hom] at hAB
        rcases h.head m with h3 | ⟨t, h3⟩
        · rw [h3] at hAB; simp at hAB
        · cases A with
          | nil => rfl
          | cons a A =>
            rw [h3] at hAB
            simp only [List.cons_append, List.cons.injEq] at hAB
            rw [← hAB.1] at hnd
            simp at hnd
      subst hA
      rw [hom, List.nil_append] at hAB
      obtain ⟨A2, B2, e1, e2⟩ := srch_found l k (m :: B) 1 p (by rw [← hAB]; exact h2) hpk (fun q hq e => h.dist q p (hmem q hq) hp1 (by rw [e]; exact hk.2) (by rw [e, hpk]))
      rw [e2] at hf
      have hl2 : (m :: B).length = A2.length + (B2.length + 1) := by rw [e1]; simp
      rw [List.length_cons] at hl2
      exact ⟨_, _, hf, by omega, by simp at hlen; omega, .inl ⟨p, A2, B2, hp1, hpk, rfl, by rw [hAB, e1], rfl⟩⟩
    · have h2 := srch_none l k (m :: B) 1 (fun q hq e => hh ⟨q, hmem q hq, e⟩) (by simp)
      rw [h2] at hf
      refine ⟨_, _, hf, ?_, ?_, .inr ⟨rfl, fun p hp1 e => hh ⟨p, hp1, e⟩⟩⟩
      · rw [List.length_cons]; omega
      · rw [List.length_cons]; omega

theorem room_none (l : List Nd) : ∀ f, (∀ p, p < f → (nd l p).f0.f0 ≠ 0) → roomL l f = (-1, 0)
  | 0, _ => rfl
  | f + 1, h => by
    unfold roomL
    rw [if_neg (h f (Nat.lt_succ_self f))]
    exact room_none l f (fun p hp1 => h p (Nat.lt_succ_of_lt hp1))
theorem room_some (l : List Nd) : ∀ f p, p < f → (nd l p).f0.f0 = 0 → ∃ fi : Nat, roomL l f = ((fi : Int), fi) ∧ fi < f ∧ (nd l fi).f0.f0 = 0 ∧ ∀ q, fi < q → q < f → (nd l q).f0.f0 ≠ 0
  | 0, p, h, _ => absurd h (Nat.not_lt_zero _)
  | f + 1, p, h, hz => by
    unfold roomL
    by_cases hf : (nd l f).f0.f0 = 0
    · rw [if_pos hf]
      exact ⟨f, rfl, Nat.lt_succ_self f, hf, fun q h1 h2 => by omega⟩
    · rw [if_neg hf]
      have hpf : p < f := by
        have : p ≠ f := fun e => hf (e ▸ hz)
        omega
      obtain ⟨fi, e1, e2, e3, e4⟩ := room_some l f p hpf hz
      refine ⟨fi, e1, by omega, e3, fun q h1 h2 => ?_⟩
      by_cases hq : q = f
      · exact hq ▸ hf
      · exact e4 q h1 (by omega)

theorem ahead_chain (l : List Nd) (m : Nat) (hl : l.length ≤ 65536) : ∀ (A : List Nat) (p q n : Nat) (B : List Nat), True → Linked l (p :: A ++ m :: B) → (∀ x ∈ p :: A ++ m :: B, x < l.length) → (p :: A ++ m :: B).Nodup → A.length < n → (p :: A).getLast (by simp) = q → aheadL l m n p = some q
  | [], p, q, 0, B, _, _, _, _, hn, _ => by simp at hn
  | [], p, q, n + 1, B, _, h, hm, hd, hn, hq => by
    have e : (p : Int) + (nd l p).f2 = m := h.1
    have h1 := hm p (by simp)
    have h2 := hm m (by simp)
    have hq' : p = q := hq
    unfold aheadL
    rw [if_pos ⟨h1, by omega, by omega⟩, if_pos e, hq']
  | a :: A, p, q, 0, B, _, _, _, _, hn, _ => by simp at hn
  | a :: A, p, q, n + 1, B, _, h, hm, hd, hn, hq => by
    have e : (p : Int) + (nd l p).f2 = a := h.1
    have h1 := hm p (by simp)
    have h2 := hm a (by simp)
    have ham : a ≠ m := by
      intro e2
      subst e2
      simp at hd
    unfold aheadL
    rw [if_pos ⟨h1, by omega, by omega⟩, if_neg (by omega), if_pos (by omega), e]
    exact ahead_chain l m hl A a q n B trivial h.2 (fun x hx => hm x (List.mem_cons_of_mem _ hx)) (List.nodup_cons.1 hd).2 (by simp only [List.length_cons] at hn; omega) hq
end Go.Proofs.Ytlmmhlabacghnaa.PH
/- nodes, plain: a new key goes in. -/
namespace Go.Proofs.Ytlmmhlabacghnaa.PH
open Go.RowKit Go.Proofs.YtlmmhlabacghnaaW.PrintWords Go.Proofs.YtlmmhlabacghnaaW.PrintLast Go.Proofs.YtlmmhlabacghnaaW.PrintMore
open Go.Proofs.Ytlmmhlabacghnaa.HM
set_option linter.unusedVariables false
set_option linter.unusedSimpArgs false

/-- The part holds the key with that value. -/
def has (l : List Nd) (x u : Ky) : Prop := ∃ p, p < l.length ∧ (nd l p).f0 = x ∧ (nd l p).f1 = u
/-- How many keys are held. -/
def cnt (l : List Nd) : Nat := (List.range l.length).countP (fun p => decide ((nd l p).f0.f0 ≠ 0))
theorem count_one (P Q : Nat → Bool) (e : Nat) : ∀ N, (∀ p, p < N → p ≠ e → Q p = P p) → (e < N → P e = false ∧ Q e = true) → (List.range N).countP Q = (List.range N).countP P + (if e < N then 1 else 0)
  | 0, _, _ => rfl
  | N + 1, h, he => by
    rw [List.range_succ, List.countP_append, List.countP_append]
    have ih := count_one P Q e N (fun p hp1 hpe => h p (by omega) hpe) (fun hl => he (by omega))
    by_cases hN : e = N
    · subst hN
      obtain ⟨h1, h2⟩ := he (by omega)
      rw [ih, if_neg (by omega), if_pos (by omega)]
      simp [h1, h2]
    · have h3 := h N (by omega) (fun e2 => hN e2.symm)
      rw [ih]
      have e4 : (if e < N then 1 else 0) = (if e < N + 1 then 1 else 0) := by
        by_cases h5 : e < N
        · rw [if_pos h5, if_pos (by omega)]
        · rw [if_neg h5, if_neg (by omega)]
      rw [← e4]
      simp only [List.countP_singleton, h3]
      omega
theorem cnt_full {l : List Nd} (h : cnt l = l.length) : ∀ p, p < l.length → (nd l p).f0.f0 ≠ 0 := by
  intro p hp1
  have h1 := (List.countP_eq_length (l := List.range l.length) (p := fun p => decide ((nd l p).f0.f0 ≠ 0))).1 (by rw [List.length_range]; exact h) p (List.mem_range.2 hp1)
  simpa using h1
theorem cnt_all {l : List Nd} (h : ∀ p, p < l.length → (nd l p).f0.f0 ≠ 0) : cnt l = l.length := by
  have h1 := (List.countP_eq_length (l := List.range l.length) (p := fun p => decide ((nd l p).f0.f0 ≠ 0))).2 (fun p hp1 => by simpa using h p (List.mem_range.1 hp1))
  rw [List.length_range] at h1
  exact h1
theorem cnt_one {l l' : List Nd} (hlen : l'.length = l.length) {e : Nat} (hel : e < l.length) (he : (nd l e).f0.f0 = 0) (he' : (nd l' e).f0.f0 ≠ 0) (h : ∀ p, p < l.length → p ≠ e → ((nd l' p).f0.f0 ≠ 0 ↔ (nd l p).f0.f0 ≠ 0)) : cnt l' = cnt l + 1 := by
  unfold cnt
  rw [hlen, count_one _ (fun p => decide ((nd l' p).f0.f0 ≠ 0)) e l.length (fun p hp1 hpe => ?_) (fun _ => ⟨?_, ?_⟩), if_pos hel]
  · exact decide_eq_decide.2 (h p hp1 hpe)
  · exact decide_eq_false (fun hn => hn he)
  · exact decide_eq_true he'

/-- What holds of the keys alone. -/
structure Keys (l : List Nd) : Prop where
  emp : ∀ p, p < l.length → (nd l p).f0.f0 = 0 → nd l p = z67
  ok : ∀ p, p < l.length → (nd l p).f0.f0 ≠ 0 → okB (nd l p).f0.f0 (nd l p).f0.f1 (nd l p).f0.f2 = true
  dist : ∀ p q, p < l.length → q < l.length → (nd l p).f0.f0 ≠ 0 → (nd l p).f0 = (nd l q).f0 → p = q
theorem Inv.keys {l : List Nd} {f : Nat} {C : Nat → List Nat} (h : Inv l f C) : Keys l := ⟨h.emp, h.ok, h.dist⟩

/-- One more key, at e; the others stay. -/
theorem Keys.add {l l' : List Nd} (h : Keys l) {k v : Ky} (hk : KeyOk k) (hnew : ∀ p, p < l.length → (nd l p).f0 ≠ k) (hlen : l'.length = l.length) {e : Nat} (hel : e < l.length) (he : (nd l e).f0.f0 = 0) (hke : (nd l' e).f0 = k) (hve : (nd l' e).f1 = v)
    (ho : ∀ p, p < l.length → p ≠ e → (nd l' p).f0 = (nd l p).f0 ∧ (nd l' p).f1 = (nd l p).f1) (hz : ∀ p, p < l.length → p ≠ e → (nd l p).f0.f0 = 0 → nd l' p = nd l p) :
    Keys l' ∧ cnt l' = cnt l + 1 ∧ ∀ x u, x.f0 ≠ 0 → (has l' x u ↔ (x = k ∧ u = v) ∨ has l x u) := by
  refine ⟨⟨fun p hp1 hp2 => ?_, fun p hp1 hp2 => ?_, fun p q hp1 hq1 hp2 hpq => ?_⟩, cnt_one hlen hel he (by rw [hke]; exact hk.2) (fun p hp1 hpe => by rw [(ho p hp1 hpe).1]), fun x u hx => ⟨fun ⟨p, hp1, hp2, hp3⟩ => ?_, fun hh => ?_⟩⟩
  · rw [hlen] at hp1
    by_cases hpe : p = e
    · subst hpe; rw [hke] at hp2; exact absurd hp2 hk.2
    · rw [(ho p hp1 hpe).1] at hp2
      rw [hz p hp1 hpe hp2]
      exact h.emp p hp1 hp2
  · rw [hlen] at hp1
    by_cases hpe : p = e
    · subst hpe; rw [hke]; exact hk.1
    · rw [(ho p hp1 hpe).1] at hp2 ⊢
      exact h.ok p hp1 hp2
  · rw [hlen] at hp1 hq1
    by_cases hpe : p = e
    · by_cases hqe : q = e
      · rw [hpe, hqe]
      · rw [hpe, hke, (ho q hq1 hqe).1] at hpq
        exact absurd hpq.symm (hnew q hq1)
    · by_cases hqe : q = e
      · rw [hqe, hke, (ho p hp1 hpe).1] at hpq
        exact absurd hpq (hnew p hp1)
      · rw [(ho p hp1 hpe).1] at hp2
        rw [(ho p hp1 hpe).1, (ho q hq1 hqe).1] at hpq
        exact h.dist p q hp1 hq1 hp2 hpq
  · rw [hlen] at hp1
    by_cases hpe : p = e
    · subst hpe; exact .inl ⟨hp2.symm.trans hke, hp3.symm.trans hve⟩
    · exact .inr ⟨p, hp1, (ho p hp1 hpe).1.symm.trans hp2, (ho p hp1 hpe).2.symm.trans hp3⟩
  · rcases hh with ⟨rfl, rfl⟩ | ⟨p, hp1, hp2, hp3⟩
    · exact ⟨e, by omega, hke, hve⟩
    · have hpe : p ≠ e := fun e1 => hx (by rw [← hp2, e1]; exact he)
      exact ⟨p, by omega, (ho p hp1 hpe).1.trans hp2, (ho p hp1 hpe).2.trans hp3⟩
/-- Two nodes change their places: e was free, m is free then. -/
theorem Keys.move {l l' : List Nd} (h : Keys l) (hlen : l'.length = l.length) {e m : Nat} (hel : e < l.length) (hml : m < l.length) (hem : e ≠ m) (he : (nd l e).f0.f0 = 0) (hm : (nd l m).f0.f0 ≠ 0) (h1 : (nd l' e).f0 = (nd l m).f0) (h2 : (nd l' e).f1 = (nd l m).f1) (h3 : nd l' m = z67)
    (ho : ∀ p, p < l.length → p ≠ e → p ≠ m → (nd l' p).f0 = (nd l p).f0 ∧ (nd l' p).f1 = (nd l p).f1) (hz : ∀ p, p < l.length → p ≠ e → p ≠ m → (nd l p).f0.f0 = 0 → nd l' p = nd l p) :
    Keys l' ∧ cnt l' = cnt l ∧ (∀ x u, x.f0 ≠ 0 → (has l' x u ↔ has l x u)) := by
  have z0 : (z67).f0.f0 = 0 := rfl
  refine ⟨⟨fun p hp1 hp2 => ?_, fun p hp1 hp2 => ?_, fun p q hp1 hq1 hp2 hpq => ?_⟩, ?_, fun x u hx => ⟨fun ⟨p, hp1, hp2, hp3⟩ => ?_, fun ⟨p, hp1, hp2, hp3⟩ => ?_⟩⟩
  · rw [hlen] at hp1
    by_cases hpe : p = e
    · subst hpe; rw [h1] at hp2; exact absurd hp2 hm
    · by_cases hpm : p = m
      · subst hpm; exact h3
      · rw [(ho p hp1 hpe hpm).1] at hp2
        rw [hz p hp1 hpe hpm hp2]
        exact h.emp p hp1 hp2
  · rw [hlen] at hp1
    by_cases hpe : p = e
    · subst hpe; rw [h1]; exact h.ok m hml hm
    · by_cases hpm : p = m
      · subst hpm; rw [h3] at hp2; exact absurd z0 hp2
      · rw [(ho p hp1 hpe hpm).1] at hp2 ⊢
        exact h.ok p hp1 hp2
  · rw [hlen] at hp1 hq1
    have key : ∀ p, p < l.length → (nd l' p).f0.f0 ≠ 0 → ∃ s, s < l.length ∧ (nd l' p).f0 = (nd l s).f0 ∧ ((p = e ∧ s = m) ∨ (p ≠ e ∧ p ≠ m ∧ s = p)) := by
      intro p hp1 hp2
      by_cases hpe : p = e
      · subst hpe; exact ⟨m, hml, h1, .inl ⟨rfl, rfl⟩⟩
      · by_cases hpm : p = m
        · subst hpm; rw [h3] at hp2; exact absurd z0 hp2
        · exact ⟨p, hp1, (ho p hp1 hpe hpm).1, .inr ⟨hpe, hpm, rfl⟩⟩
    obtain ⟨s, hs1, hs2, hs3⟩ := key p hp1 hp2
    obtain ⟨t, ht1, ht2, ht3⟩ := key q hq1 (by rw [← hpq]; exact hp2)
    have hst := h.dist s t hs1 ht1 (by rw [← hs2]; exact hp2) (by rw [← hs2, ← ht2]; exact hpq)
    omega
  · have hA := count_one (fun p => decide ((nd l p).f0.f0 ≠ 0)) (fun p => if p = e then true else decide ((nd l p).f0.f0 ≠ 0)) e l.length (fun p _ hpe => if_neg hpe) (fun _ => ⟨decide_eq_false (fun hn => hn he), if_pos rfl⟩)
    have hB := count_one (fun p => decide ((nd l' p).f0.f0 ≠ 0)) (fun p => if p = e then true else decide ((nd l p).f0.f0 ≠ 0)) m l.length (fun p hp1 hpm => by
      by_cases hpe : p = e
      · subst hpe; simp only [if_pos, h1]; exact (decide_eq_true hm).symm
      · simp only [if_neg hpe]; rw [(ho p hp1 hpe hpm).1]) (fun _ => ⟨by simp only [h3]; exact decide_eq_false (fun hn => hn z0), by simp only [if_neg (Ne.symm hem)]; exact decide_eq_true hm⟩)
    rw [if_pos hel] at hA
    rw [if_pos hml] at hB
    unfold cnt
    rw [hlen]
    omega
  · rw [hlen] at hp1
    by_cases hpe : p = e
    · subst hpe; exact ⟨m, hml, h1.symm.trans hp2, h2.symm.trans hp3⟩
    · by_cases hpm : p = m
      · subst hpm; rw [h3] at hp2; exact absurd (by rw [← hp2]; exact z0) hx
      · exact ⟨p, hp1, (ho p hp1 hpe hpm).1.symm.trans hp2, (ho p hp1 hpe hpm).2.symm.trans hp3⟩
  · by_cases hpe : p = e
    · subst hpe; exact absurd (by rw [← hp2]; exact he) hx
    · by_cases hpm : p = m
      · subst hpm; exact ⟨e, by omega, h1.trans hp2, h2.trans hp3⟩
      · exact ⟨p, by omega, (ho p hp1 hpe hpm).1.trans hp2, (ho p hp1 hpe hpm).2.trans hp3⟩
end Go.Proofs.Ytlmmhlabacghnaa.PH
/- nodes, plain: a new key goes in; what holds goes on holding. -/
namespace Go.Proofs.Ytlmmhlabacghnaa.PH
open Go.RowKit Go.Proofs.YtlmmhlabacghnaaW.PrintWords Go.Proofs.YtlmmhlabacghnaaW.PrintLast Go.Proofs.YtlmmhlabacghnaaW.PrintMore
open Go.Proofs.Ytlmmhlabacghnaa.HM
set_option linter.unusedVariables false
set_option linter.unusedSimpArgs false

/-- A new key, way by way: the nodes, the free pointer, the chains behind it. -/
inductive Step (l : List Nd) (f : Nat) (C : Nat → List Nat) (k v : Ky) (m : Nat) : List Nd → Nat → (Nat → List Nat) → Prop
  | a (hn : (nd l m).f0.f0 = 0) : Step l f C k v m (l.set m ⟨k, v, 0⟩) f (fun j => if j = m then [m] else C j)
  | c (hn : ¬ (nd l m).f0.f0 = 0) (fi : Nat) (t : List Nat) (hr : roomL l f = ((fi : Int), fi)) (hff : fi < f) (hfz : (nd l fi).f0.f0 = 0) (ho : hp l.length (nd l m).f0 = m) (ht : C m = m :: t) (x y : Int) :
      Step l f C k v m ((l.set fi ⟨k, v, x⟩).set m ⟨(nd l m).f0, (nd l m).f1, y⟩) fi (fun j => if j = m then m :: fi :: t else C j)
  | d (hn : ¬ (nd l m).f0.f0 = 0) (fi o q : Nat) (D B : List Nat) (hr : roomL l f = ((fi : Int), fi)) (hff : fi < f) (hfz : (nd l fi).f0.f0 = 0) (ho : hp l.length (nd l m).f0 = o) (hom : o ≠ m) (hC : C o = D ++ q :: m :: B) (x y : Int) :
      Step l f C k v m (((l.set q ⟨(nd l q).f0, (nd l q).f1, y⟩).set fi ⟨(nd l m).f0, (nd l m).f1, x⟩).set m ⟨k, v, 0⟩) fi (fun j => if j = o then D ++ q :: fi :: B else if j = m then [m] else C j)
/-- What an insertion that goes through answers. -/
def Put1 (l : List Nd) (f : Nat) (C : Nat → List Nat) (k v : Ky) (m : Nat) : Prop := ∃ (l' : List Nd) (f' : Nat) (C' : Nat → List Nat), Ins l f ⟨k, v, 0⟩ m l' f' 0 ∧ Inv l' f' C' ∧ f' ≤ f ∧ l'.length = l.length ∧ cnt l' = cnt l + 1 ∧ (∀ x u, x.f0 ≠ 0 → (has l' x u ↔ (x = k ∧ u = v) ∨ has l x u)) ∧ Step l f C k v m l' f' C'

theorem Inv.put_a {l : List Nd} {f : Nat} {C : Nat → List Nat} (h : Inv l f C) {k v : Ky} (hk : KeyOk k) (hnew : ∀ p, p < l.length → (nd l p).f0 ≠ k) (hn : (nd l (hp l.length k)).f0.f0 = 0) : Put1 l f C k v (hp l.length k) := by
  obtain ⟨m, hm⟩ : ∃ m, hp l.length k = m := ⟨_, rfl⟩
  have hml : m < l.length := hm ▸ hp_lt h.pow k
  rw [hm] at hn ⊢
  have hC := h.nil hml hn
  have v1 := nd_eq l (⟨k, v, 0⟩ : Nd) hml
  have v2 : ∀ p, p ≠ m → nd (l.set m (⟨k, v, 0⟩ : Nd)) p = nd l p := fun p hpm => nd_ne l _ (Ne.symm hpm)
  have hlen : (l.set m (⟨k, v, 0⟩ : Nd)).length = l.length := List.length_set ..
  obtain ⟨hK, hc, hh⟩ := h.keys.add hk hnew hlen hml hn (v := v) (by rw [v1]) (by rw [v1]) (fun p _ hpm => by rw [v2 p hpm]; exact ⟨rfl, rfl⟩) (fun p _ hpm _ => v2 p hpm)
  have hst : Step l f C k v m (l.set m (⟨k, v, 0⟩ : Nd)) f (fun j => if j = m then [m] else C j) := .a hn
  refine ⟨_, f, fun j => if j = m then [m] else C j, .a hn, ?_, Nat.le_refl _, hlen, hc, hh, hst⟩
  clear hst
  have hCm : ∀ j p, j ≠ m → p ∈ C j → p ≠ m := fun j p hj hp1 e => by
    subst e
    exact absurd hn (h.mem j p hp1).2.1
  generalize hL : l.set m (⟨k, v, 0⟩ : Nd) = L at *
  refine ⟨by rw [hlen]; exact h.pow, by rw [hlen]; exact h.fle, fun p hp1 hp2 => ?_, hK.emp, hK.ok, hK.dist, fun j p hj => ?_, fun p hp1 hp2 => ?_, fun j => ?_, fun j => ?_, fun j => ?_⟩
  · by_cases hpm : p = m
    · rw [hpm, v1]; exact hk.2
    · rw [v2 p hpm]; exact h.free p hp1 (by omega)
  · by_cases hjm : j = m
    · rw [if_pos hjm] at hj
      have : p = m := by simpa using hj
      rw [this, v1, hlen, hjm]
      exact ⟨hml, hk.2, hm⟩
    · rw [if_neg hjm] at hj
      rw [v2 p (hCm j p hjm hj), hlen]
      exact h.mem j p hj
  · rw [hlen] at hp1
    rw [hlen]
    by_cases hpm : p = m
    · rw [hpm, v1, hm, if_pos rfl]; simp
    · rw [v2 p hpm] at hp2 ⊢
      have h1 := h.all p hp1 hp2
      have h2 : hp l.length (nd l p).f0 ≠ m := fun e => by rw [e, hC] at h1; simp at h1
      rw [if_neg h2]
      exact h1
  · by_cases hjm : j = m
    · simp only [if_pos hjm]; exact .inr ⟨[], by rw [hjm]⟩
    · simp only [if_neg hjm]; exact h.head j
  · by_cases hjm : j = m
    · simp only [if_pos hjm]; simp
    · simp only [if_neg hjm]; exact h.nodup j
  · by_cases hjm : j = m
    · simp only [if_pos hjm]
      exact ⟨by show (nd L m).f2 = 0; rw [v1], trivial⟩
    · simp only [if_neg hjm]
      exact (h.link j).congr (fun p hp1 => by rw [v2 p (hCm j p hjm hp1)])

theorem Inv.put_c {l : List Nd} {f : Nat} {C : Nat → List Nat} (h : Inv l f C) {k v : Ky} (hk : KeyOk k) (hnew : ∀ p, p < l.length → (nd l p).f0 ≠ k) (hn : ¬ (nd l (hp l.length k)).f0.f0 = 0) (ho : hp l.length (nd l (hp l.length k)).f0 = hp l.length k)
    (fi : Nat) (hr : roomL l f = ((fi : Int), fi)) (hff : fi < f) (hfz : (nd l fi).f0.f0 = 0) (hfr : ∀ q, fi < q → q < f → (nd l q).f0.f0 ≠ 0) : Put1 l f C k v (hp l.length k) := by
  obtain ⟨m, hm⟩ : ∃ m, hp l.length k = m := ⟨_, rfl⟩
  have hml : m < l.length := hm ▸ hp_lt h.pow k
  have hs := h.small
  have hfle := h.fle
  rw [hm] at hn ho ⊢
  have hfl : fi < l.length := by omega
  have hfm : fi ≠ m := fun e => hn (e ▸ hfz)
  have hmC : m ∈ C m := by have := h.all m hml hn; rwa [ho] at this
  obtain ⟨t, ht⟩ : ∃ t, C m = m :: t := by
    rcases h.head m with h1 | h1
    · rw [h1] at hmC; simp at hmC
    · exact h1
  have hlk := h.link m
  have hnd := h.nodup m
  rw [ht] at hlk hnd
  have hx : -65536 ≤ (nd l m).f2 ∧ (nd l m).f2 ≤ 65536 := by
    cases t with
    | nil => have e : (nd l m).f2 = 0 := hlk.1; omega
    | cons q t =>
      have e : (m : Int) + (nd l m).f2 = q := hlk.1
      have := (h.mem m q (by rw [ht]; simp)).1
      omega
  have hom : hash_Main.f (nd l m).f0.f0 (nd l m).f0.f1 (nd l m).f0.f2 l.length = some ((m : Int), 0) := by
    have := hp_main h.pow (h.key hml hn)
    rwa [ho] at this
  have hins := Ins.c (n := ⟨k, v, 0⟩) hn fi hr ⟨hfl, hfm⟩ hom hx
  obtain ⟨x, hxx⟩ : ∃ x, (if (nd l m).f2 = 0 then 0 else (m : Int) + (nd l m).f2 - fi) = x := ⟨_, rfl⟩
  rw [hxx] at hins
  have hlen : ((l.set fi (⟨k, v, x⟩ : Nd)).set m (⟨(nd l m).f0, (nd l m).f1, (fi : Int) - m⟩ : Nd)).length = l.length := by rw [List.length_set, List.length_set]
  have v1 : nd ((l.set fi (⟨k, v, x⟩ : Nd)).set m (⟨(nd l m).f0, (nd l m).f1, (fi : Int) - m⟩ : Nd)) m = ⟨(nd l m).f0, (nd l m).f1, (fi : Int) - m⟩ := nd_eq _ _ (by rw [List.length_set]; exact hml)
  have v2 : nd ((l.set fi (⟨k, v, x⟩ : Nd)).set m (⟨(nd l m).f0, (nd l m).f1, (fi : Int) - m⟩ : Nd)) fi = ⟨k, v, x⟩ := by rw [nd_ne _ _ (Ne.symm hfm)]; exact nd_eq _ _ hfl
  have v3 : ∀ p, p ≠ m → p ≠ fi → nd ((l.set fi (⟨k, v, x⟩ : Nd)).set m (⟨(nd l m).f0, (nd l m).f1, (fi : Int) - m⟩ : Nd)) p = nd l p := fun p h1 h2 => by rw [nd_ne _ _ (Ne.symm h1), nd_ne _ _ (Ne.symm h2)]
  have hins' : Ins l f ⟨k, v, 0⟩ m ((l.set fi (⟨k, v, x⟩ : Nd)).set m (⟨(nd l m).f0, (nd l m).f1, (fi : Int) - m⟩ : Nd)) fi 0 := hins
  have hst : Step l f C k v m ((l.set fi (⟨k, v, x⟩ : Nd)).set m (⟨(nd l m).f0, (nd l m).f1, (fi : Int) - m⟩ : Nd)) fi (fun j => if j = m then m :: fi :: t else C j) := .c hn fi t hr hff hfz ho ht x _
  clear hins
  generalize hL : (l.set fi (⟨k, v, x⟩ : Nd)).set m (⟨(nd l m).f0, (nd l m).f1, (fi : Int) - m⟩ : Nd) = L at *
  clear hL
  obtain ⟨hK, hc, hh⟩ := h.keys.add (l' := L) hk hnew hlen hfl hfz (v := v) (by rw [v2]) (by rw [v2]) (fun p _ hpf => by
    by_cases hpm : p = m
    · rw [hpm, v1]; exact ⟨rfl, rfl⟩
    · rw [v3 p hpm hpf]; exact ⟨rfl, rfl⟩) (fun p _ hpf hz => by
    by_cases hpm : p = m
    · subst hpm; exact absurd hz hn
    · exact v3 p hpm hpf)
  refine ⟨L, fi, fun j => if j = m then m :: fi :: t else C j, hins', ?_, by omega, hlen, hc, hh, hst⟩
  clear hst
  have hCm : ∀ j p, j ≠ m → p ∈ C j → p ≠ m ∧ p ≠ fi := fun j p hj hp1 => by
    have h1 := h.mem j p hp1
    refine ⟨fun e => ?_, fun e => ?_⟩
    · rw [e, ho] at h1; exact hj h1.2.2.symm
    · rw [e] at h1; exact h1.2.1 hfz
  have htm : ∀ p, p ∈ t → p ≠ m ∧ p ≠ fi := fun p hp1 => by
    refine ⟨fun e => ?_, fun e => ?_⟩
    · subst e; exact (List.nodup_cons.1 hnd).1 hp1
    · subst e; exact (h.mem m p (by rw [ht]; exact List.mem_cons_of_mem _ hp1)).2.1 hfz
  refine ⟨by rw [hlen]; exact h.pow, by rw [hlen]; omega, fun p hp1 hp2 => ?_, hK.emp, hK.ok, hK.dist, fun j p hj => ?_, fun p hp1 hp2 => ?_, fun j => ?_, fun j => ?_, fun j => ?_⟩
  · rw [hlen] at hp2
    by_cases hpf : p = fi
    · rw [hpf, v2]; exact hk.2
    · by_cases hpm : p = m
      · rw [hpm, v1]; exact hn
      · rw [v3 p hpm hpf]
        by_cases hq : p < f
        · exact hfr p (by omega) hq
        · exact h.free p (by omega) hp2
  · rw [hlen]
    by_cases hjm : j = m
    · rw [if_pos hjm] at hj
      rw [hjm]
      rcases List.mem_cons.1 hj with e | hj
      · rw [e, v1]; exact ⟨hml, hn, ho⟩
      · rcases List.mem_cons.1 hj with e | hj
        · rw [e, v2]; exact ⟨hfl, hk.2, hm⟩
        · rw [v3 p (htm p hj).1 (htm p hj).2]
          exact h.mem m p (by rw [ht]; exact List.mem_cons_of_mem _ hj)
    · rw [if_neg hjm] at hj
      rw [v3 p (hCm j p hjm hj).1 (hCm j p hjm hj).2]
      exact h.mem j p hj
  · rw [hlen] at hp1
    rw [hlen]
    by_cases hpf : p = fi
    · rw [hpf, v2, hm, if_pos rfl]; simp
    · by_cases hpm : p = m
      · rw [hpm, v1]; simp only [ho, if_pos]; simp
      · rw [v3 p hpm hpf] at hp2 ⊢
        have h1 := h.all p hp1 hp2
        by_cases h2 : hp l.length (nd l p).f0 = m
        · rw [if_pos h2]
          rw [h2, ht] at h1
          rcases List.mem_cons.1 h1 with e | h1
          · exact absurd e hpm
          · exact List.mem_cons_of_mem _ (List.mem_cons_of_mem _ h1)
        · rw [if_neg h2]; exact h1
  · by_cases hjm : j = m
    · simp only [if_pos hjm]; exact .inr ⟨_, by rw [hjm]⟩
    · simp only [if_neg hjm]; exact h.head j
  · by_cases hjm : j = m
    · simp only [if_pos hjm]
      rw [List.nodup_cons] at hnd
      refine List.nodup_cons.2 ⟨fun hp1 => ?_, List.nodup_cons.2 ⟨fun hp1 => ?_, hnd.2⟩⟩
      · rcases List.mem_cons.1 hp1 with e | hp1
        · exact hfm e.symm
        · exact hnd.1 hp1
      · exact (htm fi hp1).2 rfl
    · simp only [if_neg hjm]; exact h.nodup j
  · by_cases hjm : j = m
    · simp only [if_pos hjm]
      refine ⟨by show (m : Int) + (nd L m).f2 = fi; rw [v1]; simp only; omega, ?_⟩
      cases t with
      | nil =>
        have e : (nd l m).f2 = 0 := hlk.1
        refine ⟨?_, trivial⟩
        show (nd L fi).f2 = 0
        rw [v2, ← hxx, if_pos e]
      | cons q t =>
        have e : (m : Int) + (nd l m).f2 = q := hlk.1
        have hqm := (htm q (by simp)).1
        refine ⟨?_, hlk.2.congr (fun p hp1 => by rw [v3 p (htm p hp1).1 (htm p hp1).2])⟩
        show (fi : Int) + (nd L fi).f2 = q
        rw [v2, ← hxx, if_neg (by omega)]
        simp only
        omega
    · simp only [if_neg hjm]
      exact (h.link j).congr (fun p hp1 => by rw [v3 p (hCm j p hjm hp1).1 (hCm j p hjm hp1).2])
end Go.Proofs.Ytlmmhlabacghnaa.PH
/- nodes, plain: a new key goes in where a node of another chain stands. -/
namespace Go.Proofs.Ytlmmhlabacghnaa.PH
open Go.RowKit Go.Proofs.YtlmmhlabacghnaaW.PrintWords Go.Proofs.YtlmmhlabacghnaaW.PrintLast Go.Proofs.YtlmmhlabacghnaaW.PrintMore
open Go.Proofs.Ytlmmhlabacghnaa.HM
set_option linter.unusedVariables false
set_option linter.unusedSimpArgs false

theorem Inv.put_d {l : List Nd} {f : Nat} {C : Nat → List Nat} (h : Inv l f C) {k v : Ky} (hk : KeyOk k) (hnew : ∀ p, p < l.length → (nd l p).f0 ≠ k) (hn : ¬ (nd l (hp l.length k)).f0.f0 = 0) (o : Nat) (ho : hp l.length (nd l (hp l.length k)).f0 = o) (hom : o ≠ hp l.length k)
    (fi : Nat) (hr : roomL l f = ((fi : Int), fi)) (hff : fi < f) (hfz : (nd l fi).f0.f0 = 0) (hfr : ∀ q, fi < q → q < f → (nd l q).f0.f0 ≠ 0) : Put1 l f C k v (hp l.length k) := by
  obtain ⟨m, hm⟩ : ∃ m, hp l.length k = m := ⟨_, rfl⟩
  have hml : m < l.length := hm ▸ hp_lt h.pow k
  have hs := h.small
  have hfle := h.fle
  rw [hm] at hn ho hom ⊢
  have hfl : fi < l.length := by omega
  have hfm : fi ≠ m := fun e => hn (e ▸ hfz)
  have hmC : m ∈ C o := by have := h.all m hml hn; rwa [ho] at this
  have hCm0 : C m = [] := h.other (by rw [ho]; exact hom)
  -- the chain: o, ..., q, m, B
  obtain ⟨t, ht⟩ : ∃ t, C o = o :: t := by
    rcases h.head o with h1 | h1
    · rw [h1] at hmC; simp at hmC
    · exact h1
  have hmt : m ∈ t := by
    rw [ht] at hmC
    rcases List.mem_cons.1 hmC with e | e
    · exact absurd e.symm hom
    · exact e
  obtain ⟨A, B, hAB⟩ := List.append_of_mem hmt
  have hlk := h.link o
  have hnd := h.nodup o
  have hCo : C o = (o :: A) ++ m :: B := by rw [ht, hAB]; rfl
  rw [hCo] at hlk hnd
  have hmem : ∀ x ∈ (o :: A) ++ m :: B, x < l.length := fun x hx => (h.mem o x (by rw [hCo]; exact hx)).1
  have hlenC := h.len o
  rw [hCo] at hlenC
  simp only [List.length_append, List.length_cons] at hlenC
  obtain ⟨q, hq⟩ : ∃ q, (o :: A).getLast (by simp) = q := ⟨_, rfl⟩
  obtain ⟨D, hD⟩ : ∃ D, o :: A = D ++ [q] := ⟨(o :: A).dropLast, by rw [← hq]; exact (List.dropLast_concat_getLast (by simp)).symm⟩
  have hah := ahead_chain l m hs.2 A o q (l.length + 1) B trivial hlk hmem hnd (by omega) hq
  have hCo2 : C o = D ++ q :: m :: B := by rw [hCo, hD]; simp
  rw [hD] at hlk hnd
  have hlk2 : Linked l (D ++ q :: m :: B) := by have := hlk; simpa using this
  have hnd2 : (D ++ q :: m :: B).Nodup := by have := hnd; simpa using this
  have hqC : q ∈ C o := by rw [hCo2]; simp
  have hqm : q ≠ m := by
    intro e
    subst e
    have := (List.nodup_append.1 hnd2).2.1
    simp at this
  have hqf : q ≠ fi := fun e => (h.mem o q hqC).2.1 (e ▸ hfz)
  have hql := (h.mem o q hqC).1
  have hlm : Linked l (m :: B) := (Linked.suffix D hlk2).2
  have hx : -65536 ≤ (nd l m).f2 ∧ (nd l m).f2 ≤ 65536 := by
    cases B with
    | nil => have e : (nd l m).f2 = 0 := hlm.1; omega
    | cons b B =>
      have e : (m : Int) + (nd l m).f2 = b := hlm.1
      have := (h.mem o b (by rw [hCo2]; simp)).1
      omega
  have hom2 : hash_Main.f (nd l m).f0.f0 (nd l m).f0.f1 (nd l m).f0.f2 l.length = some ((o : Int), 0) := by
    have := hp_main h.pow (h.key hml hn)
    rwa [ho] at this
  have hins := Ins.d (n := ⟨k, v, 0⟩) hn fi hr ⟨hfl, hfm⟩ o hom2 hom hx (l.length + 1) q hah
  obtain ⟨x, hxx⟩ : ∃ x, (if (nd l m).f2 = 0 then 0 else (m : Int) + (nd l m).f2 - fi) = x := ⟨_, rfl⟩
  rw [hxx] at hins
  obtain ⟨L, hL⟩ : ∃ L, ((l.set q (⟨(nd l q).f0, (nd l q).f1, (fi : Int) - q⟩ : Nd)).set fi (⟨(nd l m).f0, (nd l m).f1, x⟩ : Nd)).set m (⟨k, v, 0⟩ : Nd) = L := ⟨_, rfl⟩
  have hlen : L.length = l.length := by rw [← hL, List.length_set, List.length_set, List.length_set]
  have v1 : nd L m = ⟨k, v, 0⟩ := by rw [← hL]; exact nd_eq _ _ (by rw [List.length_set, List.length_set]; exact hml)
  have v2 : nd L fi = ⟨(nd l m).f0, (nd l m).f1, x⟩ := by rw [← hL, nd_ne _ _ (Ne.symm hfm)]; exact nd_eq _ _ (by rw [List.length_set]; exact hfl)
  have v4 : nd L q = ⟨(nd l q).f0, (nd l q).f1, (fi : Int) - q⟩ := by rw [← hL, nd_ne _ _ (Ne.symm hqm), nd_ne _ _ (Ne.symm hqf)]; exact nd_eq _ _ hql
  have v3 : ∀ p, p ≠ m → p ≠ fi → p ≠ q → nd L p = nd l p := fun p h1 h2 h3 => by rw [← hL, nd_ne _ _ (Ne.symm h1), nd_ne _ _ (Ne.symm h2), nd_ne _ _ (Ne.symm h3)]
  have v3k : ∀ p, p ≠ m → p ≠ fi → (nd L p).f0 = (nd l p).f0 ∧ (nd L p).f1 = (nd l p).f1 := fun p h1 h2 => by
    by_cases h3 : p = q
    · rw [h3, v4]; exact ⟨rfl, rfl⟩
    · rw [v3 p h1 h2 h3]; exact ⟨rfl, rfl⟩
  have hins' : Ins l f ⟨k, v, 0⟩ m L fi 0 := by rw [← hL]; exact hins
  have hst : Step l f C k v m L fi (fun j => if j = o then D ++ q :: fi :: B else if j = m then [m] else C j) := by rw [← hL]; exact .d hn fi o q D B hr hff hfz ho hom hCo2 x _
  clear hins hL
  -- first the node at m moves to fi
  obtain ⟨l2, hl2⟩ : ∃ l2, (l.set fi (⟨(nd l m).f0, (nd l m).f1, 0⟩ : Nd)).set m z67 = l2 := ⟨_, rfl⟩
  have g0 : l2.length = l.length := by rw [← hl2, List.length_set, List.length_set]
  have g1 : nd l2 m = z67 := by rw [← hl2]; exact nd_eq _ _ (by rw [List.length_set]; exact hml)
  have g2 : nd l2 fi = ⟨(nd l m).f0, (nd l m).f1, 0⟩ := by rw [← hl2, nd_ne _ _ (Ne.symm hfm)]; exact nd_eq _ _ hfl
  have g3 : ∀ p, p ≠ m → p ≠ fi → nd l2 p = nd l p := fun p h1 h2 => by rw [← hl2, nd_ne _ _ (Ne.symm h1), nd_ne _ _ (Ne.symm h2)]
  clear hl2
  obtain ⟨hK2, hc2, hh2⟩ := h.keys.move (l' := l2) g0 hfl hml hfm hfz hn (by rw [g2]) (by rw [g2]) g1 (fun p _ h1 h2 => by rw [g3 p h2 h1]; exact ⟨rfl, rfl⟩) (fun p _ h1 h2 _ => g3 p h2 h1)
  obtain ⟨hK, hc, hh⟩ := hK2.add (l' := L) hk (v := v) (e := m) (fun p hp1 => by
    rw [g0] at hp1
    by_cases hpm : p = m
    · rw [hpm, g1]; intro e; exact hk.2 (by rw [← e]; rfl)
    · by_cases hpf : p = fi
      · rw [hpf, g2]; exact hnew m hml
      · rw [g3 p hpm hpf]; exact hnew p hp1) (by rw [hlen, g0]) (by rw [g0]; exact hml) (by rw [g1]; rfl) (by rw [v1]) (by rw [v1]) (fun p _ hpm => by
    by_cases hpf : p = fi
    · rw [hpf, g2, v2]; exact ⟨rfl, rfl⟩
    · rw [g3 p hpm hpf]; exact v3k p hpm hpf) (fun p _ hpm hz => by
    by_cases hpf : p = fi
    · rw [hpf, g2] at hz; exact absurd hz hn
    · rw [g3 p hpm hpf] at hz ⊢
      have hpq : p ≠ q := fun e => (h.mem o q hqC).2.1 (e ▸ hz)
      exact v3 p hpm hpf hpq)
  refine ⟨L, fi, fun j => if j = o then D ++ q :: fi :: B else if j = m then [m] else C j, hins', ?_, by omega, hlen, by rw [hc, hc2], fun x u hx1 => by rw [hh x u hx1, hh2 x u hx1], hst⟩
  clear hst
  have hCj : ∀ j p, j ≠ o → p ∈ C j → p ≠ m ∧ p ≠ fi ∧ p ≠ q := fun j p hj hp1 => by
    have h1 := h.mem j p hp1
    refine ⟨fun e => ?_, fun e => ?_, fun e => ?_⟩
    · rw [e, ho] at h1; exact hj h1.2.2.symm
    · rw [e] at h1; exact h1.2.1 hfz
    · rw [e] at h1; exact hj (h1.2.2.symm.trans (h.mem o q hqC).2.2)
  have hfC : fi ∉ C o := fun e => (h.mem o fi e).2.1 hfz
  have hD' : ∀ p, p ∈ D → p ≠ m ∧ p ≠ fi ∧ p ≠ q := fun p hp1 => by
    have hpC : p ∈ C o := by rw [hCo2]; exact List.mem_append.2 (.inl hp1)
    have hdis := (List.nodup_append.1 hnd2).2.2
    refine ⟨fun e => ?_, fun e => ?_, fun e => ?_⟩
    · exact hdis p hp1 m (by simp) e
    · exact hfC (e ▸ hpC)
    · exact hdis p hp1 q (by simp) e
  have hB' : ∀ p, p ∈ B → p ≠ m ∧ p ≠ fi ∧ p ≠ q := fun p hp1 => by
    have hpC : p ∈ C o := by rw [hCo2]; simp [hp1]
    have h3 := (List.nodup_append.1 hnd2).2.1
    rw [List.nodup_cons, List.nodup_cons] at h3
    refine ⟨fun e => ?_, fun e => ?_, fun e => ?_⟩
    · exact h3.2.1 (e ▸ hp1)
    · exact hfC (e ▸ hpC)
    · exact h3.1 (List.mem_cons_of_mem _ (e ▸ hp1))
  refine ⟨by rw [hlen]; exact h.pow, by rw [hlen]; omega, fun p hp1 hp2 => ?_, hK.emp, hK.ok, hK.dist, fun j p hj => ?_, fun p hp1 hp2 => ?_, fun j => ?_, fun j => ?_, fun j => ?_⟩
  · rw [hlen] at hp2
    by_cases hpm : p = m
    · rw [hpm, v1]; exact hk.2
    · by_cases hpf : p = fi
      · rw [hpf, v2]; exact hn
      · rw [(v3k p hpm hpf).1]
        by_cases hq : p < f
        · exact hfr p (by omega) hq
        · exact h.free p (by omega) hp2
  · rw [hlen]
    by_cases hjo : j = o
    · rw [if_pos hjo] at hj
      rw [hjo]
      have hmm : p = fi ∨ (p ∈ C o ∧ p ≠ m) := by
        rcases List.mem_append.1 hj with hj | hj
        · exact .inr ⟨by rw [hCo2]; exact List.mem_append.2 (.inl hj), (hD' p hj).1⟩
        · rcases List.mem_cons.1 hj with e | hj
          · exact .inr ⟨e ▸ hqC, e ▸ hqm⟩
          · rcases List.mem_cons.1 hj with e | hj
            · exact .inl e
            · exact .inr ⟨by rw [hCo2]; simp [hj], (hB' p hj).1⟩
      rcases hmm with e | ⟨hpC, hpm⟩
      · rw [e, v2]; exact ⟨hfl, hn, ho⟩
      · have hpf : p ≠ fi := fun e => hfC (e ▸ hpC)
        rw [(v3k p hpm hpf).1]
        exact h.mem o p hpC
    · rw [if_neg hjo] at hj
      by_cases hjm : j = m
      · rw [if_pos hjm] at hj
        have : p = m := by simpa using hj
        rw [this, v1, hjm]
        exact ⟨hml, hk.2, hm⟩
      · rw [if_neg hjm] at hj
        have h1 := hCj j p hjo hj
        rw [v3 p h1.1 h1.2.1 h1.2.2]
        exact h.mem j p hj
  · rw [hlen] at hp1
    rw [hlen]
    by_cases hpm : p = m
    · rw [hpm, v1]
      simp only [hm]
      rw [if_neg (Ne.symm hom)]
      simp
    · by_cases hpf : p = fi
      · rw [hpf, v2]
        simp only [ho]
        simp
      · rw [(v3k p hpm hpf).1] at hp2 ⊢
        have h1 := h.all p hp1 hp2
        by_cases h2 : hp l.length (nd l p).f0 = o
        · rw [if_pos h2]
          rw [h2, hCo2] at h1
          rcases List.mem_append.1 h1 with h1 | h1
          · exact List.mem_append.2 (.inl h1)
          · rcases List.mem_cons.1 h1 with e | h1
            · rw [e]; simp
            · rcases List.mem_cons.1 h1 with e | h1
              · exact absurd e hpm
              · simp [h1]
        · rw [if_neg h2]
          have h3 : hp l.length (nd l p).f0 ≠ m := fun e => by rw [e, hCm0] at h1; simp at h1
          rw [if_neg h3]
          exact h1
  · by_cases hjo : j = o
    · simp only [if_pos hjo]
      refine .inr ?_
      cases D with
      | nil =>
        simp only [List.nil_append, List.cons.injEq] at hD
        exact ⟨fi :: B, by rw [hjo, hD.1]; rfl⟩
      | cons d D =>
        simp only [List.cons_append, List.cons.injEq] at hD
        exact ⟨D ++ q :: fi :: B, by rw [hjo, hD.1]; rfl⟩
    · by_cases hjm : j = m
      · simp only [if_neg hjo, if_pos hjm]; exact .inr ⟨[], by rw [hjm]⟩
      · simp only [if_neg hjo, if_neg hjm]; exact h.head j
  · by_cases hjo : j = o
    · simp only [if_pos hjo]
      obtain ⟨n1, n2, n3⟩ := List.nodup_append.1 hnd2
      rw [List.nodup_cons, List.nodup_cons] at n2
      refine List.nodup_append.2 ⟨n1, List.nodup_cons.2 ⟨fun hp1 => ?_, List.nodup_cons.2 ⟨fun hp1 => (hB' fi hp1).2.1 rfl, n2.2.2⟩⟩, fun a ha b hb => ?_⟩
      · rcases List.mem_cons.1 hp1 with e | hp1
        · exact hqf e
        · exact (hB' q hp1).2.2 rfl
      · rcases List.mem_cons.1 hb with e | hb
        · rw [e]; exact (hD' a ha).2.2
        · rcases List.mem_cons.1 hb with e | hb
          · rw [e]; exact (hD' a ha).2.1
          · exact n3 a ha b (by simp [hb])
    · by_cases hjm : j = m
      · simp only [if_neg hjo, if_pos hjm]; simp
      · simp only [if_neg hjo, if_neg hjm]; exact h.nodup j
  · by_cases hjo : j = o
    · simp only [if_pos hjo]
      refine Linked.mid D hlk2 (fun p hp1 => by rw [v3 p (hD' p hp1).1 (hD' p hp1).2.1 (hD' p hp1).2.2]) (by rw [v4]; simp only; omega) ?_
      cases B with
      | nil =>
        have e : (nd l m).f2 = 0 := hlm.1
        refine ⟨?_, trivial⟩
        show (nd L fi).f2 = 0
        rw [v2, ← hxx, if_pos e]
      | cons b B =>
        have e : (m : Int) + (nd l m).f2 = b := hlm.1
        have hbm := (hB' b (by simp)).1
        refine ⟨?_, hlm.2.congr (fun p hp1 => by rw [v3 p (hB' p hp1).1 (hB' p hp1).2.1 (hB' p hp1).2.2])⟩
        show (fi : Int) + (nd L fi).f2 = b
        rw [v2, ← hxx, if_neg (by omega)]
        simp only
        omega
    · by_cases hjm : j = m
      · simp only [if_neg hjo, if_pos hjm]
        exact ⟨by show (nd L m).f2 = 0; rw [v1], trivial⟩
      · simp only [if_neg hjo, if_neg hjm]
        exact (h.link j).congr (fun p hp1 => by rw [v3 p (hCj j p hjo hp1).1 (hCj j p hjo hp1).2.1 (hCj j p hjo hp1).2.2])

/-- A new key goes in while there is a node without a key; else none does. -/
theorem Inv.put {l : List Nd} {f : Nat} {C : Nat → List Nat} (h : Inv l f C) {k v : Ky} (hk : KeyOk k) (hnew : ∀ p, p < l.length → (nd l p).f0 ≠ k) :
    (cnt l < l.length ∧ Put1 l f C k v (hp l.length k)) ∨ (cnt l = l.length ∧ Ins l f ⟨k, v, 0⟩ (hp l.length k) l 0 12 ∧ Inv l 0 C) := by
  have hml := hp_lt h.pow k
  by_cases ha : ∀ p, p < l.length → (nd l p).f0.f0 ≠ 0
  · refine .inr ⟨cnt_all ha, ?_, { h with fle := Nat.zero_le _, free := fun p _ hp1 => ha p hp1 }⟩
    have hr := room_none l f (fun p hp1 => ha p (Nat.lt_of_lt_of_le hp1 h.fle))
    have := Ins.b (n := ⟨k, v, 0⟩) (f := f) (ha _ hml) (by rw [hr])
    rwa [hr] at this
  · obtain ⟨p, hp1, hp2⟩ : ∃ p, p < l.length ∧ (nd l p).f0.f0 = 0 := by
      by_cases hx : ∃ p, p < l.length ∧ (nd l p).f0.f0 = 0
      · exact hx
      · exact absurd (fun p h1 h2 => hx ⟨p, h1, h2⟩) ha
    have hpf : p < f := by
      by_cases hx : p < f
      · exact hx
      · exact absurd hp2 (h.free p (by omega) hp1)
    have key : Put1 l f C k v (hp l.length k) := by
      by_cases hn : (nd l (hp l.length k)).f0.f0 = 0
      · exact h.put_a hk hnew hn
      · obtain ⟨fi, e1, e2, e3, e4⟩ := room_some l f p hpf hp2
        by_cases ho : hp l.length (nd l (hp l.length k)).f0 = hp l.length k
        · exact h.put_c hk hnew hn ho fi e1 e2 e3 e4
        · exact h.put_d hk hnew hn _ rfl ho fi e1 e2 e3 e4
    refine .inl ⟨?_, key⟩
    have h1 : cnt l ≤ l.length := by
      unfold cnt
      have := List.countP_le_length (p := fun p => decide ((nd l p).f0.f0 ≠ 0)) (l := List.range l.length)
      rwa [List.length_range] at this
    have h2 : cnt l ≠ l.length := fun e => cnt_full e p hp1 hp2
    omega
end Go.Proofs.Ytlmmhlabacghnaa.PH
/- nodes: fixed (the document's first three examples). -/
namespace Go.Proofs.Ytlmmhlabacghnaa.PH
open Go.RowKit Go.Proofs.YtlmmhlabacghnaaW.PrintWords Go.Proofs.YtlmmhlabacghnaaW.PrintLast Go.Proofs.YtlmmhlabacghnaaW.PrintMore
open Go.Proofs.Ytlmmhlabacghnaa.HM
set_option linter.unusedVariables false
set_option linter.unusedSimpArgs false

/-- A whole number as a key. -/
def kI (n : Int) : Ky := ⟨2, n, ⟨#[]⟩⟩
def zN : Nd := z67
def fx0 : List Nd := [zN, zN, zN, zN]
def fx1 : List Nd := [⟨kI 3, kI 1, 0⟩, zN, zN, zN]
def fx2 : List Nd := [⟨kI 3, kI 1, 3⟩, zN, zN, ⟨kI 6, kI 1, 0⟩]
def fx3 : List Nd := [⟨kI 3, kI 1, 2⟩, zN, ⟨kI 9, kI 1, 1⟩, ⟨kI 6, kI 1, 0⟩]
def fx4 : List Nd := [⟨kI 3, kI 1, 1⟩, ⟨kI 9, kI 1, 2⟩, ⟨kI 2, kI 1, 0⟩, ⟨kI 6, kI 1, 0⟩]
theorem fxm (n : Int) (m : Nat) (h : hp 4 (kI n) = m) (hk : okB 2 n ⟨#[]⟩ = true) : hash_Main.f 2 n ⟨#[]⟩ (4 : Nat) = some ((m : Int), 0) := by
  have := hp_main (N := 4) (by decide) (k := kI n) ⟨hk, by show (2 : Int) ≠ 0; decide⟩
  rw [h] at this
  exact this
theorem m3 : hash_Main.f 2 3 ⟨#[]⟩ (4 : Nat) = some (((0 : Nat) : Int), 0) := fxm 3 0 (by decide +kernel) (by decide +kernel)
theorem m6 : hash_Main.f 2 6 ⟨#[]⟩ (4 : Nat) = some (((0 : Nat) : Int), 0) := fxm 6 0 (by decide +kernel) (by decide +kernel)
theorem m9 : hash_Main.f 2 9 ⟨#[]⟩ (4 : Nat) = some (((0 : Nat) : Int), 0) := fxm 9 0 (by decide +kernel) (by decide +kernel)
theorem m2 : hash_Main.f 2 2 ⟨#[]⟩ (4 : Nat) = some (((2 : Nat) : Int), 0) := fxm 2 2 (by decide +kernel) (by decide +kernel)
theorem s3 : findL fx0 (kI 3) 5 0 1 = some (-1, 1) := by decide +kernel
theorem s6 : findL fx1 (kI 6) 5 0 1 = some (-1, 1) := by decide +kernel
theorem s9 : findL fx2 (kI 9) 5 0 1 = some (-1, 2) := by decide +kernel
theorem s2 : findL fx3 (kI 2) 5 2 1 = some (-1, 2) := by decide +kernel
theorem s6' : findL fx4 (kI 6) 5 0 1 = some (3, 3) := by decide +kernel
theorem i3 : PutR fx0 4 (kI 3) (kI 1) 0 (-1) fx1 4 0 := .new rfl (by decide) _ _ _ (.a rfl)
theorem i6 : PutR fx1 4 (kI 6) (kI 1) 0 (-1) fx2 3 0 := .new rfl (by decide) _ _ _ (.c (by decide) 3 (by decide +kernel) (by decide) m3 (by decide))
theorem i9 : PutR fx2 3 (kI 9) (kI 1) 0 (-1) fx3 2 0 := .new rfl (by decide) _ _ _ (.c (by decide) 2 (by decide +kernel) (by decide) m3 (by decide))
theorem i2 : PutR fx3 2 (kI 2) (kI 1) 2 (-1) fx4 1 0 := .new rfl (by decide) _ _ _ (Ins.d (l := fx3) (f := 2) (n := ⟨kI 2, kI 1, 0⟩) (m := 2) (by decide) 1 (by decide +kernel) (by decide) 0 m9 (by decide) (by decide) 5 0 (by decide +kernel))

/-- A part that the run has made since world w0, among the run's own memory. -/
structure St (w0 : World) (g a cap : Nat) (l : List Nd) (f : Int) (w : World) : Prop where
  p : IsP w0.heap.size g a cap l f w
  b : Below w0.heap.size w0 w
  g : w0.heap.size ≤ g
theorem St.below {w0 w w' : World} {g a cap : Nat} {l : List Nd} {f : Int} (h : St w0 g a cap l f w) (hb : Below w.heap.size w w') : St w0 g a cap l f w' :=
  ⟨h.p.below hb, h.b.trans (hb.mono h.b.size), h.g⟩
theorem IsP.base {B g a cap : Nat} {l : List Nd} {f : Int} {w : World} (h : IsP B g a cap l f w) : B ≤ a := by
  exact Kd.R_base h.row a (by simp [Value.ownBlock])
theorem St.put {w0 w w' : World} {g a cap : Nat} {l l' : List Nd} {f f' : Int} (h : St w0 g a cap l f w) (hI : IsP w0.heap.size g a cap l' f' w') (hF : Fr (fun k => k = g ∨ k = a) w w') : St w0 g a cap l' f' w' :=
  ⟨hI, h.b.trans ⟨hF.os, hF.tape, hF.output, hF.size, fun k hk => hF.block k (Nat.lt_of_lt_of_le hk h.b.size) (fun e => by have := h.g; have := h.p.base; rcases e with e | e <;> omega)⟩, h.g⟩

theorem field_key (a b c d e : Int) (s t : ByteArray) (w : World) : (Instr.field 67 (.agg #[.int .i64 a, .int .i64 b, .string s, .int .i64 c, .int .i64 d, .string t, .int .i64 e]) 0).run Try.prog w = .ok (.agg #[.int .i64 a, .int .i64 b, .string s]) w := by kernel_rfl
theorem field_next (a b c d e : Int) (s t : ByteArray) (w : World) : (Instr.field 67 (.agg #[.int .i64 a, .int .i64 b, .string s, .int .i64 c, .int .i64 d, .string t, .int .i64 e]) 2).run Try.prog w = .ok (.int .i64 e) w := by kernel_rfl
set_option maxHeartbeats 8000000 in
set_option maxRecDepth 100000 in
theorem fixed_call (w : World) : Calls Try.prog 44 #[] w fun e w' => e = .returned (.bool true) ∧ Below w.heap.size w w' := by
  have hf0 := field_key
  have hf2 := field_next
  go_enter Try.func44, Try.ntmps44
  go_wp2_with fail
  refine (new_call w 4 (by omega) (by decide +kernel)).mono ?_
  rintro e w1 ⟨g, a, cap, rfl, hI, hb, hg⟩
  have I1 : RowKit.Hid (St w g a cap fx0 (4 : Nat) w1) := Lib.hid ⟨hI, hb, hg⟩
  clear hI hb hg
  go_wp2_with fail
  refine (trestleref03_I.calls 3 2 3 ⟨#[]⟩ _ rfl).mono ?_
  rintro e w2 ⟨rfl, hb⟩
  have I2 := Lib.hid (I1.out.below hb)
  clear hb I1
  go_wp2_with fail
  refine (trestleref03_I.calls 1 2 1 ⟨#[]⟩ _ rfl).mono ?_
  rintro e w3 ⟨rfl, hb⟩
  have I3 := Lib.hid (I2.out.below hb)
  clear hb I2
  go_wp2_with fail
  have hx := put_call (l := fx0) (f := 4) I3.out.p I3.out.b.size (by decide) (kI 3) (kI 1) (by decide +kernel) (by decide +kernel) (by decide) 0 m3 (by decide) 5 (-1) 1 s3 i3
  refine hx.mono ?_
  rintro e w4 ⟨rfl, hI, hF⟩
  have I4 := Lib.hid (I3.out.put hI hF)
  clear hI hF hx I3
  go_wp2_with fail
  refine (trestleref03_I.calls 6 2 6 ⟨#[]⟩ _ rfl).mono ?_
  rintro e w5 ⟨rfl, hb⟩
  have I5 := Lib.hid (I4.out.below hb)
  clear hb I4
  go_wp2_with fail
  refine (trestleref03_I.calls 1 2 1 ⟨#[]⟩ _ rfl).mono ?_
  rintro e w6 ⟨rfl, hb⟩
  have I6 := Lib.hid (I5.out.below hb)
  clear hb I5
  go_wp2_with fail
  have hx := put_call (l := fx1) (f := 4) I6.out.p I6.out.b.size (by decide) (kI 6) (kI 1) (by decide +kernel) (by decide +kernel) (by decide) 0 m6 (by decide) 5 (-1) 1 s6 i6
  refine hx.mono ?_
  rintro e w7 ⟨rfl, hI, hF⟩
  have I7 := Lib.hid (I6.out.put hI hF)
  clear hI hF hx I6
  go_wp2_with fail
  refine (trestleref03_I.calls 9 2 9 ⟨#[]⟩ _ rfl).mono ?_
  rintro e w8 ⟨rfl, hb⟩
  have I8 := Lib.hid (I7.out.below hb)
  clear hb I7
  go_wp2_with fail
  refine (trestleref03_I.calls 1 2 1 ⟨#[]⟩ _ rfl).mono ?_
  rintro e w9 ⟨rfl, hb⟩
  have I9 := Lib.hid (I8.out.below hb)
  clear hb I8
  go_wp2_with fail
  have hx := put_call (l := fx2) (f := 3) I9.out.p I9.out.b.size (by decide) (kI 9) (kI 1) (by decide +kernel) (by decide +kernel) (by decide) 0 m9 (by decide) 5 (-1) 2 s9 i9
  refine hx.mono ?_
  rintro e w10 ⟨rfl, hI, hF⟩
  have I10 := Lib.hid (I9.out.put hI hF)
  clear hI hF hx I9
  go_wp2_with fail
  refine (trestleref03_I.calls 2 2 2 ⟨#[]⟩ _ rfl).mono ?_
  rintro e w11 ⟨rfl, hb⟩
  have I11 := Lib.hid (I10.out.below hb)
  clear hb I10
  go_wp2_with fail
  refine (trestleref03_I.calls 1 2 1 ⟨#[]⟩ _ rfl).mono ?_
  rintro e w12 ⟨rfl, hb⟩
  have I12 := Lib.hid (I11.out.below hb)
  clear hb I11
  go_wp2_with fail
  have hx := put_call (l := fx3) (f := 2) I12.out.p I12.out.b.size (by decide) (kI 2) (kI 1) (by decide +kernel) (by decide +kernel) (by decide) 2 m2 (by decide) 5 (-1) 2 s2 i2
  refine hx.mono ?_
  rintro e w13 ⟨rfl, hI, hF⟩
  have I13 := Lib.hid (I12.out.put hI hF)
  clear hI hF hx I12
  go_wp2_with fail
  refine (trestleref03_I.calls 6 2 6 ⟨#[]⟩ _ rfl).mono ?_
  rintro e w14 ⟨rfl, hb⟩
  have I14 := Lib.hid (I13.out.below hb)
  clear hb I13
  go_wp2_with fail
  have hx := find_call (l := fx4) I14.out.p (kI 6) 0 m6 (by decide) 5 3 3 s6'
  refine hx.mono ?_
  rintro e w15 ⟨rfl, hb⟩
  have I15 := Lib.hid (I14.out.below hb)
  clear hb hx I14
  go_wp2_with fail
  refine (at_call I15.out.p 1 (by decide)).mono ?_
  rintro e w16 ⟨rfl, hb⟩
  have I16 := Lib.hid (I15.out.below hb)
  clear hb I15
  rw [show nv (nd fx4 1) = nv ⟨kI 9, kI 1, 2⟩ from rfl]
  unfold nv kI
  go_wp2_with fail
  refine (trestleref03_I.calls 9 2 9 ⟨#[]⟩ _ rfl).mono ?_
  rintro e w17 ⟨rfl, hb⟩
  have I17 := Lib.hid (I16.out.below hb)
  clear hb I16
  go_wp2_with fail
  refine (at_call I17.out.p 1 (by decide)).mono ?_
  rintro e w18 ⟨rfl, hb⟩
  have I18 := Lib.hid (I17.out.below hb)
  clear hb I17
  rw [show nv (nd fx4 1) = nv ⟨kI 9, kI 1, 2⟩ from rfl]
  unfold nv kI
  go_wp2_with fail
  refine (at_call I18.out.p 0 (by decide)).mono ?_
  rintro e w19 ⟨rfl, hb⟩
  have I19 := Lib.hid (I18.out.below hb)
  clear hb I18
  rw [show nv (nd fx4 0) = nv ⟨kI 3, kI 1, 1⟩ from rfl]
  unfold nv kI
  go_wp2_with fail
  refine (free_call I19.out.p).mono ?_
  rintro e w20 ⟨rfl, rfl⟩
  go_wp2_with fail
  go_ret
  exact ⟨rfl, I19.out.b⟩
end Go.Proofs.Ytlmmhlabacghnaa.PH
