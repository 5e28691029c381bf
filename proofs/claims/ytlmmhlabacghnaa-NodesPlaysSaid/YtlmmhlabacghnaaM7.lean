/- nodes: the reference's Put, the ways that write no chain. -/
import Derived.Test.YtlmmhlabacghnaaGE
namespace Go.Proofs.Ytlmmhlabacghnaa.PH
open Go.RowKit Go.Proofs.YtlmmhlabacghnaaW.PrintWords Go.Proofs.YtlmmhlabacghnaaW.PrintLast Go.Proofs.YtlmmhlabacghnaaW.PrintMore
open Go.Proofs.Ytlmmhlabacghnaa.HM
set_option linter.unusedVariables false
set_option linter.unusedSimpArgs false

theorem ksOf_set (l : List Nd) (i : Nat) (x : Nd) : ksOf (l.set i x) = (ksOf l).set i x.f0 := List.map_set ..
theorem vsOf_set (l : List Nd) (i : Nat) (x : Nd) : vsOf (l.set i x) = (vsOf l).set i x.f1 := List.map_set ..
theorem set_kd (xs : List Ky) (i : Nat) (h : i < xs.length) : xs.set i (kd xs i) = xs := by
  unfold kd
  rw [List.getD_eq_getElem?_getD, List.getElem?_eq_getElem h]
  exact List.set_getElem_self h
theorem IsRL.stV {ops : Array Oper} {rest : List Oper} {o : Oper} {ac : Act} {Q : Exit → Act → World → Prop} {B q bk bv bc ck cv cc N : Nat} {ks vs : List Ky} {cs : List (List Int)} {f : Int} {W : World} (h : IsRL B q bk bv bc ck cv cc N ks vs cs f W) (hN : o.dst = none) (hgd : o.guard = none) (p x : Operand) (ho : o.op = .store 30 p x)
    (i : Nat) (hi : i < N) (v : Ky) (hp : ac.eval p = .pointer (some ⟨bv, i * 3, none⟩)) (hx : ac.eval x = kv v) (hK : ∀ w1, IsRL B q bk bv bc ck cv cc N ks (vs.set i v) cs f w1 → Below B W w1 → wpList Try.prog ops Q rest ac w1) : wpList Try.prog ops Q (o :: rest) ac W := by
  obtain ⟨q0, q1, q2⟩ := h.val i hi
  have hn := h.bcne
  have hlt := h.lt
  refine Kd.R_store k30 (w0 := W) (W := W) B hN hgd 30 p x ho 30 (i : Int) 0 vs v (kv v) [.int .i64 v.f0, .int .i64 v.f1, .string v.f2] [.int .i64 (kd vs i).f0, .int .i64 (kd vs i).f1, .string (kd vs i).f2] (fun k => k = bv) (fun _ => False) hp (by rw [Int.toNat_natCast]; rfl) hx rfl (by kernel_rfl) (by intro q hq; simp at hq; rcases hq with rfl | rfl | rfl <;> rfl) h.rv (by omega) (by omega) rfl ?cc (show 0 + 3 ≤ 3 by decide) (k30_mkM _ _ _ _) (fun _ hk => hk.elim) (Below.refl _ _) ?_
  case cc =>
    intro j u hu
    rw [Int.toNat_natCast]
    match j, hu with
    | 0, hu => cases hu; exact q0
    | 1, hu => cases hu; exact q1
    | 2, hu => cases hu; exact q2
    | j + 3, hu => simp at hu
  intro w1 hR hb hg
  rw [Int.toNat_natCast] at hR
  have hfr : ∀ k, k < W.heap.size → some k ≠ some bv → w1.heap[k]? = W.heap[k]? := hg.block
  exact hK w1 ⟨(hfr q hlt.1 (fun e => h.n2 (Option.some.inj e))).trans h.blk, Kd.R_step h.rk (fun k hk hl => hfr k hl (fun e => by rw [hk] at e; exact h.n3 (Option.some.inj e))), hR, Kd.S_step h.rc (fun k hk hl => hfr k hl (fun e => hk.2.2 (Option.some.inj e))), h.n1, h.n2, h.n3, h.bq⟩ hb
set_option maxHeartbeats 8000000 in
set_option maxRecDepth 100000 in
theorem rput_form {B q bk bv bc ck cv cc : Nat} {l : List Nd} {f : Nat} {C : Nat → List Nat} {w : World} (h : IsR B q bk bv bc ck cv cc l f C w) (hB : B ≤ w.heap.size) (k v : Ky) (hf : okB k.f0 k.f1 k.f2 = false ∨ okB v.f0 v.f1 v.f2 = false) :
    Calls Try.prog 55 #[.pointer (some ⟨q, 0, none⟩), kv k, kv v] w fun x w' => x = .returned (.tuple #[.int .i64 0, .int .i64 2]) ∧ Below w.heap.size w w' := by
  unfold kv
  have HK := Lib.hid hf
  clear hf h hB
  go_enter Try.func55, Try.ntmps55
  go_wp2_with fail
  obtain ⟨w2, hw2, hb2, hk2, hv2, hs2⟩ : ∃ w2, (w.alloc (.cells #[.int .i64 k.f0, .int .i64 k.f1, .string k.f2] 30)).alloc (.cells #[.int .i64 v.f0, .int .i64 v.f1, .string v.f2] 30) = w2 ∧ Below w.heap.size w w2 ∧
      w2.heap[w.heap.size]? = some (.cells #[.int .i64 k.f0, .int .i64 k.f1, .string k.f2] 30 (0, 0)) ∧ w2.heap[w.heap.size + 1]? = some (.cells #[.int .i64 v.f0, .int .i64 v.f1, .string v.f2] 30 (0, 0)) ∧ w2.heap.size = w.heap.size + 2 :=
    ⟨_, rfl, ((Below.refl _ _).alloc (Nat.le_refl _) _).alloc (by simp) _, (Below.heap_alloc _ _ _ (by simp)).trans (heap_alloc_new _ _), by have := heap_alloc_new (w.alloc (.cells #[.int .i64 k.f0, .int .i64 k.f1, .string k.f2] 30)) (.cells #[.int .i64 v.f0, .int .i64 v.f1, .string v.f2] 30); simpa using this, by simp⟩
  rw [hw2]
  by_cases hk : okB k.f0 k.f1 k.f2 = true
  · have hv : ¬ okB v.f0 v.f1 v.f2 = true := by
      rcases HK.out with e | e
      · rw [hk] at e; cases e
      · rw [e]; exact Bool.false_ne_true
    refine (trestleref03_Check.calls k.f0 k.f1 k.f2 0 w2 (by unfold trestleref03_Check.f okN; rw [if_pos hk])).mono ?_
    rintro r1 w3 ⟨rfl, hb3⟩
    have V3 := Lib.hid ((hb3.block (w.heap.size + 1) (by omega)).trans hv2)
    have B3 := Lib.hid (hb2.trans (hb3.mono (by omega)))
    have HV := Lib.hid hv
    clear hw2 hb2 hk2 hv2 hs2 hb3 hk hv
    obtain ⟨v0, v1, v2⟩ := three_of V3.out
    go_wp2_with fail
    refine (trestleref03_Check.calls v.f0 v.f1 v.f2 2 w3 (by unfold trestleref03_Check.f okN; rw [if_neg HV.out])).mono ?_
    rintro r1 w4 ⟨rfl, hb4⟩
    have B4 := Lib.hid (B3.out.trans (hb4.mono B3.out.size))
    clear v0 v1 v2 hb4
    go_wp2_with fail
    go_ret2
    exact ⟨rfl, B4.out⟩
  · refine (trestleref03_Check.calls k.f0 k.f1 k.f2 2 w2 (by unfold trestleref03_Check.f okN; rw [if_neg hk])).mono ?_
    rintro r1 w3 ⟨rfl, hb3⟩
    have B3 := Lib.hid (hb2.trans (hb3.mono (by omega)))
    clear hw2 hb2 hk2 hv2 hs2 hb3 hk
    go_wp2_with fail
    go_ret2
    exact ⟨rfl, B3.out⟩
set_option maxHeartbeats 8000000 in
set_option maxRecDepth 100000 in
theorem rput_key {B q bk bv bc ck cv cc : Nat} {l : List Nd} {f : Nat} {C : Nat → List Nat} {w : World} (h : IsR B q bk bv bc ck cv cc l f C w) (hB : B ≤ w.heap.size) (k v : Ky) (hk : okB k.f0 k.f1 k.f2 = true) (hv : okB v.f0 v.f1 v.f2 = true) (hk0 : k.f0 = 0) :
    Calls Try.prog 55 #[.pointer (some ⟨q, 0, none⟩), kv k, kv v] w fun x w' => x = .returned (.tuple #[.int .i64 0, .int .i64 9]) ∧ Below w.heap.size w w' := by
  unfold kv
  have HK := Lib.hid (And.intro hk hv)
  have hk1 : (k.f0 == 0) = true := beq_iff_eq.2 hk0
  clear hk hv h hk0 hB
  go_enter Try.func55, Try.ntmps55
  go_wp2_with fail
  obtain ⟨w2, hw2, hb2, hk2, hv2, hs2⟩ : ∃ w2, (w.alloc (.cells #[.int .i64 k.f0, .int .i64 k.f1, .string k.f2] 30)).alloc (.cells #[.int .i64 v.f0, .int .i64 v.f1, .string v.f2] 30) = w2 ∧ Below w.heap.size w w2 ∧
      w2.heap[w.heap.size]? = some (.cells #[.int .i64 k.f0, .int .i64 k.f1, .string k.f2] 30 (0, 0)) ∧ w2.heap[w.heap.size + 1]? = some (.cells #[.int .i64 v.f0, .int .i64 v.f1, .string v.f2] 30 (0, 0)) ∧ w2.heap.size = w.heap.size + 2 :=
    ⟨_, rfl, ((Below.refl _ _).alloc (Nat.le_refl _) _).alloc (by simp) _, (Below.heap_alloc _ _ _ (by simp)).trans (heap_alloc_new _ _), by have := heap_alloc_new (w.alloc (.cells #[.int .i64 k.f0, .int .i64 k.f1, .string k.f2] 30)) (.cells #[.int .i64 v.f0, .int .i64 v.f1, .string v.f2] 30); simpa using this, by simp⟩
  rw [hw2]
  refine (trestleref03_Check.calls k.f0 k.f1 k.f2 0 w2 (by unfold trestleref03_Check.f okN; rw [if_pos HK.out.1])).mono ?_
  rintro r1 w3 ⟨rfl, hb3⟩
  have K3 := Lib.hid ((hb3.block w.heap.size (by omega)).trans hk2)
  have V3 := Lib.hid ((hb3.block (w.heap.size + 1) (by omega)).trans hv2)
  have B3 := Lib.hid (hb2.trans (hb3.mono (by omega)))
  have S3 : w.heap.size + 2 ≤ w3.heap.size := by have := hb3.size; omega
  clear hw2 hb2 hk2 hv2 hs2 hb3
  obtain ⟨v0, v1, v2⟩ := three_of V3.out
  go_wp2_with fail
  refine (trestleref03_Check.calls v.f0 v.f1 v.f2 0 w3 (by unfold trestleref03_Check.f okN; rw [if_pos HK.out.2])).mono ?_
  rintro r1 w4 ⟨rfl, hb4⟩
  have K4 := Lib.hid ((hb4.block w.heap.size (by omega)).trans K3.out)
  have V4 := Lib.hid ((hb4.block (w.heap.size + 1) (by omega)).trans V3.out)
  have B4 := Lib.hid (B3.out.trans (hb4.mono (by omega)))
  have S4 : w.heap.size + 2 ≤ w4.heap.size := by have := hb4.size; omega
  clear v0 v1 v2 hb4
  obtain ⟨k0, k1, k2⟩ := three_of K4.out
  go_wp2_with fail
  go_ret2
  exact ⟨rfl, B4.out⟩
set_option maxHeartbeats 8000000 in
set_option maxRecDepth 100000 in
theorem rput_nil {B q bk bv bc ck cv cc : Nat} {l : List Nd} {f : Nat} {C : Nat → List Nat} {w : World} (h : IsR B q bk bv bc ck cv cc l f C w) (hB : B ≤ w.heap.size) (hI : InvC l f C) (k v : Ky) (hk : okB k.f0 k.f1 k.f2 = true) (hv : okB v.f0 v.f1 v.f2 = true) (hk0 : ¬ k.f0 = 0) (at_ r : Int) (hf : fndR l k = (at_, r)) (ha : at_ = -1) (hv0 : v.f0 = 0) :
    Calls Try.prog 55 #[.pointer (some ⟨q, 0, none⟩), kv k, kv v] w fun x w' => x = .returned (.tuple #[.int .i64 r, .int .i64 0]) ∧ IsR B q bk bv bc ck cv cc l f C w' ∧ Below B w w' := by
  unfold kv
  have H := Lib.hid (And.intro h (And.intro hB (And.intro hI hf)))
  have HK := Lib.hid (And.intro hk hv)
  have hk1 : (k.f0 == 0) = false := beq_eq_false_iff_ne.2 hk0
  have hlen := h.len
  have hlt := h.toL.lt
  clear h hB hI hf hk hv hk0
  subst ha
  have HV := Lib.hid hv0
  clear hv0
  go_enter Try.func55, Try.ntmps55
  go_wp2_with fail
  obtain ⟨w2, hw2, hb2, hk2, hv2, hs2⟩ : ∃ w2, (w.alloc (.cells #[.int .i64 k.f0, .int .i64 k.f1, .string k.f2] 30)).alloc (.cells #[.int .i64 v.f0, .int .i64 v.f1, .string v.f2] 30) = w2 ∧ Below w.heap.size w w2 ∧
      w2.heap[w.heap.size]? = some (.cells #[.int .i64 k.f0, .int .i64 k.f1, .string k.f2] 30 (0, 0)) ∧ w2.heap[w.heap.size + 1]? = some (.cells #[.int .i64 v.f0, .int .i64 v.f1, .string v.f2] 30 (0, 0)) ∧ w2.heap.size = w.heap.size + 2 :=
    ⟨_, rfl, ((Below.refl _ _).alloc (Nat.le_refl _) _).alloc (by simp) _, (Below.heap_alloc _ _ _ (by simp)).trans (heap_alloc_new _ _), by have := heap_alloc_new (w.alloc (.cells #[.int .i64 k.f0, .int .i64 k.f1, .string k.f2] 30)) (.cells #[.int .i64 v.f0, .int .i64 v.f1, .string v.f2] 30); simpa using this, by simp⟩
  rw [hw2]
  refine (trestleref03_Check.calls k.f0 k.f1 k.f2 0 w2 (by unfold trestleref03_Check.f okN; rw [if_pos HK.out.1])).mono ?_
  rintro r1 w3 ⟨rfl, hb3⟩
  have K3 := Lib.hid ((hb3.block w.heap.size (by omega)).trans hk2)
  have V3 := Lib.hid ((hb3.block (w.heap.size + 1) (by omega)).trans hv2)
  have B3 := Lib.hid (hb2.trans (hb3.mono (by omega)))
  have S3 : w.heap.size + 2 ≤ w3.heap.size := by have := hb3.size; omega
  clear hw2 hb2 hk2 hv2 hs2 hb3
  obtain ⟨v0, v1, v2⟩ := three_of V3.out
  go_wp2_with fail
  refine (trestleref03_Check.calls v.f0 v.f1 v.f2 0 w3 (by unfold trestleref03_Check.f okN; rw [if_pos HK.out.2])).mono ?_
  rintro r1 w4 ⟨rfl, hb4⟩
  have K4 := Lib.hid ((hb4.block w.heap.size (by omega)).trans K3.out)
  have V4 := Lib.hid ((hb4.block (w.heap.size + 1) (by omega)).trans V3.out)
  have B4 := Lib.hid (B3.out.trans (hb4.mono (by omega)))
  have S4 : w.heap.size + 2 ≤ w4.heap.size := by have := hb4.size; omega
  clear v0 v1 v2 hb4
  obtain ⟨k0, k1, k2⟩ := three_of K4.out
  go_wp2_with fail
  have hx := rfind_call (H.out.1.below B4.out) H.out.2.2.1 k _ _ H.out.2.2.2
  unfold kv at hx
  refine hx.mono ?_
  rintro r1 w5 ⟨rfl, hb5⟩
  have K5 := Lib.hid ((hb5.block w.heap.size (by omega)).trans K4.out)
  have V5 := Lib.hid ((hb5.block (w.heap.size + 1) (by omega)).trans V4.out)
  have B5 := Lib.hid (B4.out.trans (hb5.mono (by omega)))
  have S5 : w.heap.size + 2 ≤ w5.heap.size := by have := hb5.size; omega
  have R5 := Lib.hid (H.out.1.below B5.out)
  clear k0 k1 k2 hb5 hx
  obtain ⟨k0, k1, k2⟩ := three_of K5.out
  obtain ⟨v0, v1, v2⟩ := three_of V5.out
  have hmx : Try.prog.follows .mixedOrders = true := by kernel_rfl
  have hvb : (v.f0 == 0) = true := beq_iff_eq.2 HV.out
  go_wp2_with fail
  go_ret2
  exact ⟨rfl, R5.out, B5.out.mono H.out.2.1⟩
set_option maxHeartbeats 8000000 in
set_option maxRecDepth 100000 in
theorem rput_zero {B q bk bv bc ck cv cc : Nat} {l : List Nd} {f : Nat} {C : Nat → List Nat} {w : World} (h : IsR B q bk bv bc ck cv cc l f C w) (hB : B ≤ w.heap.size) (hI : InvC l f C) (k v : Ky) (hk : okB k.f0 k.f1 k.f2 = true) (hv : okB v.f0 v.f1 v.f2 = true) (hk0 : ¬ k.f0 = 0) (at_ r : Int) (hf : fndR l k = (at_, r)) (ha : at_ = -1) (hv0 : ¬ v.f0 = 0) (hl : l.length = 0) :
    Calls Try.prog 55 #[.pointer (some ⟨q, 0, none⟩), kv k, kv v] w fun x w' => x = .returned (.tuple #[.int .i64 r, .int .i64 12]) ∧ IsR B q bk bv bc ck cv cc l f C w' ∧ Below B w w' := by
  unfold kv
  have H := Lib.hid (And.intro h (And.intro hB (And.intro hI hf)))
  have HK := Lib.hid (And.intro hk hv)
  have hk1 : (k.f0 == 0) = false := beq_eq_false_iff_ne.2 hk0
  have hlen := h.len
  have hlt := h.toL.lt
  clear h hB hI hf hk hv hk0
  subst ha
  have HV := Lib.hid (And.intro hv0 hl)
  clear hv0 hl
  go_enter Try.func55, Try.ntmps55
  go_wp2_with fail
  obtain ⟨w2, hw2, hb2, hk2, hv2, hs2⟩ : ∃ w2, (w.alloc (.cells #[.int .i64 k.f0, .int .i64 k.f1, .string k.f2] 30)).alloc (.cells #[.int .i64 v.f0, .int .i64 v.f1, .string v.f2] 30) = w2 ∧ Below w.heap.size w w2 ∧
      w2.heap[w.heap.size]? = some (.cells #[.int .i64 k.f0, .int .i64 k.f1, .string k.f2] 30 (0, 0)) ∧ w2.heap[w.heap.size + 1]? = some (.cells #[.int .i64 v.f0, .int .i64 v.f1, .string v.f2] 30 (0, 0)) ∧ w2.heap.size = w.heap.size + 2 :=
    ⟨_, rfl, ((Below.refl _ _).alloc (Nat.le_refl _) _).alloc (by simp) _, (Below.heap_alloc _ _ _ (by simp)).trans (heap_alloc_new _ _), by have := heap_alloc_new (w.alloc (.cells #[.int .i64 k.f0, .int .i64 k.f1, .string k.f2] 30)) (.cells #[.int .i64 v.f0, .int .i64 v.f1, .string v.f2] 30); simpa using this, by simp⟩
  rw [hw2]
  refine (trestleref03_Check.calls k.f0 k.f1 k.f2 0 w2 (by unfold trestleref03_Check.f okN; rw [if_pos HK.out.1])).mono ?_
  rintro r1 w3 ⟨rfl, hb3⟩
  have K3 := Lib.hid ((hb3.block w.heap.size (by omega)).trans hk2)
  have V3 := Lib.hid ((hb3.block (w.heap.size + 1) (by omega)).trans hv2)
  have B3 := Lib.hid (hb2.trans (hb3.mono (by omega)))
  have S3 : w.heap.size + 2 ≤ w3.heap.size := by have := hb3.size; omega
  clear hw2 hb2 hk2 hv2 hs2 hb3
  obtain ⟨v0, v1, v2⟩ := three_of V3.out
  go_wp2_with fail
  refine (trestleref03_Check.calls v.f0 v.f1 v.f2 0 w3 (by unfold trestleref03_Check.f okN; rw [if_pos HK.out.2])).mono ?_
  rintro r1 w4 ⟨rfl, hb4⟩
  have K4 := Lib.hid ((hb4.block w.heap.size (by omega)).trans K3.out)
  have V4 := Lib.hid ((hb4.block (w.heap.size + 1) (by omega)).trans V3.out)
  have B4 := Lib.hid (B3.out.trans (hb4.mono (by omega)))
  have S4 : w.heap.size + 2 ≤ w4.heap.size := by have := hb4.size; omega
  clear v0 v1 v2 hb4
  obtain ⟨k0, k1, k2⟩ := three_of K4.out
  go_wp2_with fail
  have hx := rfind_call (H.out.1.below B4.out) H.out.2.2.1 k _ _ H.out.2.2.2
  unfold kv at hx
  refine hx.mono ?_
  rintro r1 w5 ⟨rfl, hb5⟩
  have K5 := Lib.hid ((hb5.block w.heap.size (by omega)).trans K4.out)
  have V5 := Lib.hid ((hb5.block (w.heap.size + 1) (by omega)).trans V4.out)
  have B5 := Lib.hid (B4.out.trans (hb5.mono (by omega)))
  have S5 : w.heap.size + 2 ≤ w5.heap.size := by have := hb5.size; omega
  have R5 := Lib.hid (H.out.1.below B5.out)
  clear k0 k1 k2 hb5 hx
  obtain ⟨k0, k1, k2⟩ := three_of K5.out
  obtain ⟨v0, v1, v2⟩ := three_of V5.out
  have hmx : Try.prog.follows .mixedOrders = true := by kernel_rfl
  have hl := HV.out.2
  have hvb : (v.f0 == 0) = false := beq_eq_false_iff_ne.2 HV.out.1
  have d0 : decide ((l.length : Int) = 0) = true := decide_eq_true (by omega)
  have d1 : ((l.length : Int) == 0) = true := beq_iff_eq.2 (by omega)
  obtain ⟨x0, x1, x2, x3, _⟩ := four_of R5.out.blk
  clear hl
  go_wp2_with fail
  go_ret2
  exact ⟨rfl, R5.out, B5.out.mono H.out.2.1⟩
set_option maxHeartbeats 8000000 in
set_option maxRecDepth 100000 in
theorem rput_held {B q bk bv bc ck cv cc : Nat} {l : List Nd} {f : Nat} {C : Nat → List Nat} {w : World} (h : IsR B q bk bv bc ck cv cc l f C w) (hB : B ≤ w.heap.size) (hI : InvC l f C) (k v : Ky) (hk : okB k.f0 k.f1 k.f2 = true) (hv : okB v.f0 v.f1 v.f2 = true) (hk0 : ¬ k.f0 = 0) (at_ r : Int) (hf : fndR l k = (at_, r)) (p : Nat) (ha : at_ = p) (hp : p < l.length) :
    Calls Try.prog 55 #[.pointer (some ⟨q, 0, none⟩), kv k, kv v] w fun x w' => x = .returned (.tuple #[.int .i64 r, .int .i64 0]) ∧ IsR B q bk bv bc ck cv cc (l.set p ⟨(nd l p).f0, v, (nd l p).f2⟩) f C w' ∧ Below B w w' := by
  unfold kv
  have H := Lib.hid (And.intro h (And.intro hB (And.intro hI hf)))
  have HK := Lib.hid (And.intro hk hv)
  have hk1 : (k.f0 == 0) = false := beq_eq_false_iff_ne.2 hk0
  have hlen := h.len
  have hlt := h.toL.lt
  clear h hB hI hf hk hv hk0
  subst ha
  have HP := Lib.hid hp
  clear hp
  go_enter Try.func55, Try.ntmps55
  go_wp2_with fail
  obtain ⟨w2, hw2, hb2, hk2, hv2, hs2⟩ : ∃ w2, (w.alloc (.cells #[.int .i64 k.f0, .int .i64 k.f1, .string k.f2] 30)).alloc (.cells #[.int .i64 v.f0, .int .i64 v.f1, .string v.f2] 30) = w2 ∧ Below w.heap.size w w2 ∧
      w2.heap[w.heap.size]? = some (.cells #[.int .i64 k.f0, .int .i64 k.f1, .string k.f2] 30 (0, 0)) ∧ w2.heap[w.heap.size + 1]? = some (.cells #[.int .i64 v.f0, .int .i64 v.f1, .string v.f2] 30 (0, 0)) ∧ w2.heap.size = w.heap.size + 2 :=
    ⟨_, rfl, ((Below.refl _ _).alloc (Nat.le_refl _) _).alloc (by simp) _, (Below.heap_alloc _ _ _ (by simp)).trans (heap_alloc_new _ _), by have := heap_alloc_new (w.alloc (.cells #[.int .i64 k.f0, .int .i64 k.f1, .string k.f2] 30)) (.cells #[.int .i64 v.f0, .int .i64 v.f1, .string v.f2] 30); simpa using this, by simp⟩
  rw [hw2]
  refine (trestleref03_Check.calls k.f0 k.f1 k.f2 0 w2 (by unfold trestleref03_Check.f okN; rw [if_pos HK.out.1])).mono ?_
  rintro r1 w3 ⟨rfl, hb3⟩
  have K3 := Lib.hid ((hb3.block w.heap.size (by omega)).trans hk2)
  have V3 := Lib.hid ((hb3.block (w.heap.size + 1) (by omega)).trans hv2)
  have B3 := Lib.hid (hb2.trans (hb3.mono (by omega)))
  have S3 : w.heap.size + 2 ≤ w3.heap.size := by have := hb3.size; omega
  clear hw2 hb2 hk2 hv2 hs2 hb3
  obtain ⟨v0, v1, v2⟩ := three_of V3.out
  go_wp2_with fail
  refine (trestleref03_Check.calls v.f0 v.f1 v.f2 0 w3 (by unfold trestleref03_Check.f okN; rw [if_pos HK.out.2])).mono ?_
  rintro r1 w4 ⟨rfl, hb4⟩
  have K4 := Lib.hid ((hb4.block w.heap.size (by omega)).trans K3.out)
  have V4 := Lib.hid ((hb4.block (w.heap.size + 1) (by omega)).trans V3.out)
  have B4 := Lib.hid (B3.out.trans (hb4.mono (by omega)))
  have S4 : w.heap.size + 2 ≤ w4.heap.size := by have := hb4.size; omega
  clear v0 v1 v2 hb4
  obtain ⟨k0, k1, k2⟩ := three_of K4.out
  go_wp2_with fail
  have hx := rfind_call (H.out.1.below B4.out) H.out.2.2.1 k _ _ H.out.2.2.2
  unfold kv at hx
  refine hx.mono ?_
  rintro r1 w5 ⟨rfl, hb5⟩
  have K5 := Lib.hid ((hb5.block w.heap.size (by omega)).trans K4.out)
  have V5 := Lib.hid ((hb5.block (w.heap.size + 1) (by omega)).trans V4.out)
  have B5 := Lib.hid (B4.out.trans (hb5.mono (by omega)))
  have S5 : w.heap.size + 2 ≤ w5.heap.size := by have := hb5.size; omega
  have R5 := Lib.hid (H.out.1.below B5.out)
  clear k0 k1 k2 hb5 hx
  obtain ⟨k0, k1, k2⟩ := three_of K5.out
  obtain ⟨v0, v1, v2⟩ := three_of V5.out
  have hmx : Try.prog.follows .mixedOrders = true := by kernel_rfl
  have hp := HP.out
  have p1 : 0 ≤ (p : Int) := by omega
  have p2 : (p : Int) < (l.length : Int) := by omega
  replace p1 := eq_true p1
  replace p2 := eq_true p2
  have p3 : decide ((p : Int) ≥ 0) = true := decide_eq_true (by omega)
  have p4 : decide (0 ≤ (p : Int)) = true := decide_eq_true (by omega)
  have hpp : (p : Int) ≤ 65536 := by omega
  obtain ⟨x0, x1, x2, x3, _⟩ := four_of R5.out.blk
  clear hp
  go_wp2_with fail
  go_still_tail 7, (by kernel_rfl)
  change wpList _ _ _ _ _ w5.drew
  refine IsRL.stV (R5.out.toL.below (Below.refl _ _).drew) rfl rfl _ _ rfl p HP.out v rfl rfl ?_
  intro w6 h6 hb6
  have Q := Lib.hid (And.intro h6 ((B5.out.mono H.out.2.1).trans (((Below.refl _ _).drew).trans hb6)))
  clear h6 hb6
  go_wp2_with fail
  go_ret2
  refine ⟨rfl, Q.out.1.toR (by rw [List.length_set]) ?_ ?_ (by rw [List.length_set]) (by rw [List.length_set]; exact hlen), Q.out.2⟩
  · rw [ksOf_set]
    have := set_kd (ksOf l) p (by rw [ksOf_len]; exact HP.out)
    rw [kd_ks] at this
    exact this.symm
  · rw [vsOf_set]
end Go.Proofs.Ytlmmhlabacghnaa.PH
