/- nodes: Put. -/
import Derived.Test.YtlmmhlabacghnaaND
namespace Go.Proofs.Ytlmmhlabacghnaa.PH
open Go.RowKit Go.Proofs.YtlmmhlabacghnaaW.PrintWords Go.Proofs.YtlmmhlabacghnaaW.PrintLast Go.Proofs.YtlmmhlabacghnaaW.PrintMore
set_option linter.unusedVariables false
set_option linter.unusedSimpArgs false

/-- A new key goes in: the nodes, the free pointer and the error behind it. -/
inductive Ins (l : List S67) (f : Nat) (n : S67) (m : Nat) : List S67 → Nat → Int → Prop
  | a (he : (nd l m).f0.f0 = 0) : Ins l f n m (l.set m n) f 0
  | b (he : ¬ (nd l m).f0.f0 = 0) (hr : (roomL l f).1 = -1) : Ins l f n m l (roomL l f).2 12
  | c (he : ¬ (nd l m).f0.f0 = 0) (fi : Nat) (hr : roomL l f = ((fi : Int), fi)) (hfi : fi < l.length ∧ fi ≠ m) (ho : hash_Main.f (nd l m).f0.f0 (nd l m).f0.f1 (nd l m).f0.f2 l.length = some ((m : Int), 0))
      (hx : -65536 ≤ (nd l m).f2 ∧ (nd l m).f2 ≤ 65536) : Ins l f n m ((l.set fi ⟨n.f0, n.f1, if (nd l m).f2 = 0 then 0 else (m : Int) + (nd l m).f2 - fi⟩).set m ⟨(nd l m).f0, (nd l m).f1, (fi : Int) - m⟩) fi 0
  | d (he : ¬ (nd l m).f0.f0 = 0) (fi : Nat) (hr : roomL l f = ((fi : Int), fi)) (hfi : fi < l.length ∧ fi ≠ m) (o : Nat) (ho : hash_Main.f (nd l m).f0.f0 (nd l m).f0.f1 (nd l m).f0.f2 l.length = some ((o : Int), 0)) (hom : o ≠ m)
      (hx : -65536 ≤ (nd l m).f2 ∧ (nd l m).f2 ≤ 65536) (k q : Nat) (hq : aheadL l m k o = some q) : Ins l f n m (((l.set q ⟨(nd l q).f0, (nd l q).f1, (fi : Int) - q⟩).set fi ⟨(nd l m).f0, (nd l m).f1, if (nd l m).f2 = 0 then 0 else (m : Int) + (nd l m).f2 - fi⟩).set m n) fi 0

theorem insert_call {B g a cap : Nat} {l : List S67} {f : Nat} {w : World} (h : IsP B g a cap l f w) (hB : B ≤ w.heap.size) (hf : f ≤ l.length) (n : S67) (m : Nat) (hm : hash_Main.f n.f0.f0 n.f0.f1 n.f0.f2 l.length = some ((m : Int), 0)) (hml : m < l.length) {l' : List S67} {f' : Nat} {e : Int} (hi : Ins l f n m l' f' e) :
    Calls Try.prog 80 #[.pointer (some ⟨g, 0, none⟩), nv n] w fun r w' => r = .returned (.int .i64 e) ∧ IsP B g a cap l' f' w' ∧ Fr (fun k => k = g ∨ k = a) w w' := by
  cases hi with
  | a he => exact (insert_a h n m hm hml he).mono fun r w' ⟨p, q, r⟩ => ⟨p, q, r.imp fun k hk => .inr hk⟩
  | b he hr => exact (insert_b h hf n m hm hml he hr).mono fun r w' ⟨p, q, r⟩ => ⟨p, q, r.imp fun k hk => .inl hk⟩
  | c he fi hr hfi ho hx => exact insert_c1 h hB hf n m hm hml he _ hr hfi m ho rfl hx _ rfl
  | d he fi hr hfi o ho hom hx k q hq => exact insert_c2 h hB hf n m hm hml he _ hr hfi o ho hom hx k q hq _ rfl

/-- A node's value is stored. -/
theorem IsP.storeVal {ops : Array Oper} {rest : List Oper} {o : Oper} {ac : Act} {Q : Exit → Act → World → Prop} {B g a cap : Nat} {l : List S67} {f : Int} {W : World} (h : IsP B g a cap l f W) (hN : o.dst = none) (hgd : o.guard = none) (p x : Operand) (ho : o.op = .store 30 p x)
    (i : Nat) (hi : i < l.length) (v : S30) (hp : ac.eval p = .pointer (some ⟨a, i * 7 + 3, none⟩)) (hx : ac.eval x = kv v) (hK : ∀ w1, IsP B g a cap (l.set i ⟨(nd l i).f0, v, (nd l i).f2⟩) f w1 → Fr (fun k => k = a) W w1 → wpList Try.prog ops Q rest ac w1) : wpList Try.prog ops Q (o :: rest) ac W := by
  refine Kd.R_store k67 (w0 := W) (W := W) B hN hgd 30 p x ho 67 (i : Int) 3 l ⟨(nd l i).f0, v, (nd l i).f2⟩ (kv v) [.int .i64 v.f0, .int .i64 v.f1, .string v.f2] (ncells (nd l i)) (fun k => k = a) (fun _ => False) hp (by rw [Int.toNat_natCast]; rfl) hx rfl (by kernel_rfl) (by intro q hq; simp at hq; rcases hq with rfl | rfl | rfl <;> rfl) h.row (by omega) (by omega) rfl ?cc (show 3 + 3 ≤ 7 by decide) ?M (fun _ hk => hk.elim) (Below.refl _ _) ?_
  case cc =>
    obtain ⟨c0, c1, c2, c3, c4, c5, c6⟩ := h.at i hi
    intro j u hu
    rw [Int.toNat_natCast]
    match j, hu with
    | 0, hu => cases hu; exact c0
    | 1, hu => cases hu; exact c1
    | 2, hu => cases hu; exact c2
    | 3, hu => cases hu; exact c3
    | 4, hu => cases hu; exact c4
    | 5, hu => cases hu; exact c5
    | 6, hu => cases hu; exact c6
    | j + 7, hu => simp [ncells] at hu
  case M => exact k67_mkM _ _ _ _
  intro w1 hR hb hg
  have hgl := (Array.getElem?_eq_some_iff.1 h.blk).1
  refine hK w1 ?_ ⟨hg.os, hg.tape, hg.output, hg.size, fun k hk hka => hg.block k hk (fun e => hka (by cases e; rfl))⟩
  rw [Int.toNat_natCast] at hR
  refine ⟨?_, ?_, h.ne, by rw [List.length_set]; exact h.len⟩
  · rw [List.length_set]
    exact (hg.block g hgl (fun e => h.ne (by cases e; rfl))).trans h.blk
  · rw [List.length_set]
    exact hR

/-- The ways of a Put of a key in form, behind the search. -/
inductive PutR (l : List S67) (f : Nat) (k v : S30) (m : Nat) (at_ : Int) : List S67 → Nat → Int → Prop
  | held (i : Nat) (hi : i < l.length) (ha : at_ = i) : PutR l f k v m at_ (l.set i ⟨(nd l i).f0, v, (nd l i).f2⟩) f 0
  | nil (ha : at_ = -1) (hv : v.f0 = 0) : PutR l f k v m at_ l f 0
  | new (ha : at_ = -1) (hv : ¬ v.f0 = 0) (l' : List S67) (f' : Nat) (e : Int) (hi : Ins l f ⟨k, v, 0⟩ m l' f' e) : PutR l f k v m at_ l' f' e

set_option maxHeartbeats 8000000 in
set_option maxRecDepth 100000 in
theorem put_call {B g a cap : Nat} {l : List S67} {f : Nat} {w : World} (h : IsP B g a cap l f w) (hB : B ≤ w.heap.size) (hf : f ≤ l.length) (k v : S30) (hk : okB k.f0 k.f1 k.f2 = true) (hv : okB v.f0 v.f1 v.f2 = true) (hk0 : ¬ k.f0 = 0) (m : Nat) (hm : hash_Main.f k.f0 k.f1 k.f2 l.length = some ((m : Int), 0)) (hml : m < l.length)
    (n : Nat) (at_ r : Int) (hfi : findL l k n m 1 = some (at_, r)) {l' : List S67} {f' : Nat} {e : Int} (hp : PutR l f k v m at_ l' f' e) :
    Calls Try.prog 47 #[.pointer (some ⟨g, 0, none⟩), kv k, kv v] w fun x w' => x = .returned (.tuple #[.int .i64 r, .int .i64 e]) ∧ IsP B g a cap l' f' w' ∧ Fr (fun k => k = g ∨ k = a) w w' := by
  unfold kv
  have H := Lib.hid (And.intro h (And.intro hB (And.intro hf (And.intro hm hml))))
  have HP := Lib.hid (And.intro hfi hp)
  have HK := Lib.hid (And.intro hk hv)
  have hk1 : (k.f0 == 0) = false := beq_eq_false_iff_ne.2 hk0
  have hlen := h.len
  have hgl := (Array.getElem?_eq_some_iff.1 h.blk).1
  have hal := h.alt
  clear h hB hf hm hml hfi hp hk hv hk0
  go_enter Try.func47, Try.ntmps47
  go_wp2_with fail
  obtain ⟨w2, hw2, hb2, hk2, hv2, hs2⟩ : ∃ w2, (w.alloc (.cells #[.int .i64 k.f0, .int .i64 k.f1, .string k.f2] 30)).alloc (.cells #[.int .i64 v.f0, .int .i64 v.f1, .string v.f2] 30) = w2 ∧ Below w.heap.size w w2 ∧
      w2.heap[w.heap.size]? = some (.cells #[.int .i64 k.f0, .int .i64 k.f1, .string k.f2] 30 (0, 0)) ∧ w2.heap[w.heap.size + 1]? = some (.cells #[.int .i64 v.f0, .int .i64 v.f1, .string v.f2] 30 (0, 0)) ∧ w2.heap.size = w.heap.size + 2 :=
    ⟨_, rfl, ((Below.refl _ _).alloc (Nat.le_refl _) _).alloc (by simp) _, (Below.heap_alloc _ _ _ (by simp)).trans (heap_alloc_new _ _), by have := heap_alloc_new (w.alloc (.cells #[.int .i64 k.f0, .int .i64 k.f1, .string k.f2] 30)) (.cells #[.int .i64 v.f0, .int .i64 v.f1, .string v.f2] 30); simpa using this, by simp⟩
  rw [hw2]
  refine (box_Check.calls k.f0 k.f1 k.f2 0 w2 (by unfold box_Check.f; rw [if_pos HK.out.1])).mono ?_
  rintro r1 w3 ⟨rfl, hb3⟩
  have K3 := Lib.hid ((hb3.block w.heap.size (by omega)).trans hk2)
  have V3 := Lib.hid ((hb3.block (w.heap.size + 1) (by omega)).trans hv2)
  have B3 := Lib.hid (hb2.trans (hb3.mono (by omega)))
  have S3 : w.heap.size + 2 ≤ w3.heap.size := by have := hb3.size; omega
  clear hw2 hb2 hk2 hv2 hs2 hb3
  obtain ⟨v0, v1, v2⟩ := three_of V3.out
  go_wp2_with fail
  refine (box_Check.calls v.f0 v.f1 v.f2 0 w3 (by unfold box_Check.f; rw [if_pos HK.out.2])).mono ?_
  rintro r1 w4 ⟨rfl, hb4⟩
  have K4 := Lib.hid ((hb4.block w.heap.size (by omega)).trans K3.out)
  have V4 := Lib.hid ((hb4.block (w.heap.size + 1) (by omega)).trans V3.out)
  have B4 := Lib.hid (B3.out.trans (hb4.mono (by omega)))
  have S4 : w.heap.size + 2 ≤ w4.heap.size := by have := hb4.size; omega
  have I4 := Lib.hid (H.out.1.below B4.out)
  clear v0 v1 v2 hb4
  obtain ⟨k0, k1, k2⟩ := three_of K4.out
  go_wp2_with fail
  have hx := find_call I4.out k m H.out.2.2.2.1 (by have := H.out.2.2.2.2; omega) n at_ r HP.out.1
  unfold kv at hx
  refine hx.mono ?_
  rintro r1 w5 ⟨rfl, hb5⟩
  have K5 := Lib.hid ((hb5.block w.heap.size (by omega)).trans K4.out)
  have V5 := Lib.hid ((hb5.block (w.heap.size + 1) (by omega)).trans V4.out)
  have B5 := Lib.hid (B4.out.trans (hb5.mono (by omega)))
  have S5 : w.heap.size + 2 ≤ w5.heap.size := by have := hb5.size; omega
  have I5 := Lib.hid (I4.out.below hb5)
  clear k0 k1 k2 hb5 hx
  obtain ⟨k0, k1, k2⟩ := three_of K5.out
  obtain ⟨v0, v1, v2⟩ := three_of V5.out
  have hmx : Try.prog.follows .mixedOrders = true := by kernel_rfl
  cases HP.out.2 with
  | held i hi ha =>
    subst ha
    have p1 : 0 ≤ (i : Int) := by omega
    have p2 : (i : Int) < (l.length : Int) := by omega
    replace p1 := eq_true p1
    replace p2 := eq_true p2
    have p3 : decide ((i : Int) ≥ 0) = true := decide_eq_true (by omega)
    have p4 : decide (0 ≤ (i : Int)) = true := decide_eq_true (by omega)
    have hii : (i : Int) ≤ 65536 := by omega
    have HI := Lib.hid hi
    obtain ⟨x0, x1, y0, y1⟩ := two_of I5.out.blk
    clear hi
    go_wp2_with fail
    go_still_tail 8, (by kernel_rfl)
    change wpList _ _ _ _ _ w5.drew
    refine I5.out.drew.storeVal rfl rfl _ _ rfl i HI.out v rfl rfl ?_
    intro w6 hI6 hF6
    have Q := Lib.hid (And.intro hI6 ((Fr.of_below B5.out).trans ((Fr.of_below (Below.refl _ _).drew).trans (hF6.imp (fun k hk => (.inr hk : k = g ∨ k = a))))))
    clear hI6 hF6
    go_wp2_with fail
    go_ret2
    exact ⟨rfl, Q.out⟩
  | nil ha hv =>
    subst ha
    have hvb : (v.f0 == 0) = true := beq_iff_eq.2 hv
    go_wp2_with fail
    go_ret2
    exact ⟨rfl, I5.out, Fr.of_below B5.out⟩
  | new ha hv _ _ _ hi =>
    subst ha
    have hvb : (v.f0 == 0) = false := beq_eq_false_iff_ne.2 hv
    have HI := Lib.hid hi
    clear hi
    go_wp2_with fail
    have hx := insert_call I5.out (by have := B5.out.size; have := H.out.2.1; omega) H.out.2.2.1 ⟨k, v, 0⟩ m H.out.2.2.2.1 H.out.2.2.2.2 HI.out
    unfold nv at hx
    refine hx.mono ?_
    rintro r1 w6 ⟨rfl, hI6, hF6⟩
    have Q := Lib.hid (And.intro hI6 ((Fr.of_below (c := fun k => k = g ∨ k = a) B5.out).trans hF6))
    clear hI6 hF6
    go_wp2_with fail
    go_ret2
    exact ⟨rfl, Q.out⟩
end Go.Proofs.Ytlmmhlabacghnaa.PH
