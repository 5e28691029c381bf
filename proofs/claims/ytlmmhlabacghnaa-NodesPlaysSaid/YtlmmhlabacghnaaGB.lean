import Derived.Test.YtlmmhlabacghnaaGA
import Derived.Deep.LoopGhost
/- nodes: insert, where the main position is taken by another chain. -/
namespace Go.Proofs.Ytlmmhlabacghnaa.PH
open Go.RowKit Go.Proofs.YtlmmhlabacghnaaW.PrintWords Go.Proofs.YtlmmhlabacghnaaW.PrintLast Go.Proofs.YtlmmhlabacghnaaW.PrintMore
set_option linter.unusedVariables false
set_option linter.unusedSimpArgs false

/-- Along the links from a node on: the node whose link leads to node m. -/
def aheadL (l : List S67) (m : Nat) : Nat → Nat → Option Nat
  | 0, _ => none
  | f + 1, i => if i < l.length ∧ -65536 ≤ (nd l i).f2 ∧ (nd l i).f2 ≤ 65536 then (if (i : Int) + (nd l i).f2 = m then some i else if 0 ≤ (i : Int) + (nd l i).f2 then aheadL l m f ((i : Int) + (nd l i).f2).toNat else none) else none

theorem IsP.alt {B g a cap : Nat} {l : List S67} {f : Int} {w : World} (h : IsP B g a cap l f w) : a < w.heap.size := by
  obtain ⟨_, inner, ho, _⟩ := h.row
  obtain ⟨cells, hc⟩ := own_typed ho a (by simp [Value.ownBlock])
  exact (Array.getElem?_eq_some_iff.1 hc).1
set_option maxHeartbeats 8000000 in
set_option maxRecDepth 100000 in
/-- The node at the main position is of another chain. -/
theorem insert_c2 {B g a cap : Nat} {l : List S67} {f : Nat} {w : World} (h : IsP B g a cap l f w) (hB : B ≤ w.heap.size) (hf : f ≤ l.length) (n : S67) (m : Nat) (hm : hash_Main.f n.f0.f0 n.f0.f1 n.f0.f2 l.length = some ((m : Int), 0)) (hml : m < l.length) (he : ¬ (nd l m).f0.f0 = 0) (fi : Nat) (hr : roomL l f = ((fi : Int), fi)) (hfi : fi < l.length ∧ fi ≠ m) (o : Nat) (ho : hash_Main.f (nd l m).f0.f0 (nd l m).f0.f1 (nd l m).f0.f2 l.length = some ((o : Int), 0)) (hom : o ≠ m)
    (hx2 : -65536 ≤ (nd l m).f2 ∧ (nd l m).f2 ≤ 65536) (k q : Nat) (hq : aheadL l m k o = some q) (L : List S67) (hL : ((l.set q ⟨(nd l q).f0, (nd l q).f1, (fi : Int) - q⟩).set fi ⟨(nd l m).f0, (nd l m).f1, if (nd l m).f2 = 0 then 0 else (m : Int) + (nd l m).f2 - fi⟩).set m n = L) :
    Calls Try.prog 80 #[.pointer (some ⟨g, 0, none⟩), nv n] w fun e w' => e = .returned (.int .i64 0) ∧ IsP B g a cap L fi w' ∧ Fr (fun k => k = g ∨ k = a) w w' := by
  unfold nv
  have H := Lib.hid (And.intro h (And.intro hm (And.intro hml he)))
  have HF := Lib.hid (And.intro hf (And.intro hr (And.intro hfi ho)))
  have HX := Lib.hid (And.intro hx2 (And.intro hB hom))
  have HL := Lib.hid hL
  have HQ := Lib.hid hq
  have hlen := h.len
  have hmm : (m : Int) ≤ 65536 := by omega
  have hff : (fi : Int) ≤ 65536 := by omega
  have p1 : 0 ≤ (m : Int) := by omega
  have p2 : (m : Int) < (l.length : Int) := by omega
  replace p1 := eq_true p1
  replace p2 := eq_true p2
  clear h hm hml he hf hr hfi ho hx2 hB hom hL hq
  go_enter Try.func80, Try.ntmps80
  go_wp2_with fail
  obtain ⟨w1, hw1, hb1, hn1, hs1⟩ : ∃ w1, w.alloc (.cells #[.int .i64 n.f0.f0, .int .i64 n.f0.f1, .string n.f0.f2, .int .i64 n.f1.f0, .int .i64 n.f1.f1, .string n.f1.f2, .int .i64 n.f2] 67) = w1 ∧ Below w.heap.size w w1 ∧
      w1.heap[w.heap.size]? = some (.cells #[.int .i64 n.f0.f0, .int .i64 n.f0.f1, .string n.f0.f2, .int .i64 n.f1.f0, .int .i64 n.f1.f1, .string n.f1.f2, .int .i64 n.f2] 67 (0, 0)) ∧ w1.heap.size = w.heap.size + 1 :=
    ⟨_, rfl, (Below.refl _ _).alloc (Nat.le_refl _) _, heap_alloc_new _ _, by simp⟩
  rw [hw1]
  have hx := main_call (H.out.1.below hb1) n.f0 m 0 H.out.2.1 (by have := H.out.2.2.1; omega)
  unfold kv at hx
  refine hx.mono ?_
  rintro e w2 ⟨rfl, hb2⟩
  simp only [beq_self_eq_true]
  have I2 := Lib.hid ((H.out.1.below hb1).below hb2)
  have N2 := Lib.hid ((hb2.block w.heap.size (by omega)).trans hn1)
  have B2 := Lib.hid (hb1.trans (hb2.mono (by omega)))
  have S2 : w.heap.size + 1 ≤ w2.heap.size := by have := hb2.size; omega
  clear hx hw1 hb1 hn1 hs1 hb2
  obtain ⟨x0, x1, y0, y1⟩ := two_of I2.out.blk
  obtain ⟨e0, e1, e2, e3, e4, e5, e6⟩ := I2.out.at m H.out.2.2.1
  go_wp2_with fail
  have he := nodes_Node_empty.calls (nd l m).f0.f0 (nd l m).f0.f1 (nd l m).f0.f2 (nd l m).f1.f0 (nd l m).f1.f1 (nd l m).f1.f2 (nd l m).f2 _ w2 rfl
  refine he.mono ?_
  rintro e w3 ⟨rfl, hb3⟩
  rw [show ((nd l m).f0.f0 == 0) = false from beq_eq_false_iff_ne.2 H.out.2.2.2]
  have I3 := Lib.hid (I2.out.below hb3)
  have N3 := Lib.hid ((hb3.block w.heap.size (by omega)).trans N2.out)
  have B3 := Lib.hid (B2.out.trans (hb3.mono (by omega)))
  have S3 : w.heap.size + 1 ≤ w3.heap.size := by have := hb3.size; omega
  clear x0 x1 y0 y1 e0 e1 e2 e3 e4 e5 e6 he hb3
  go_wp2_with fail
  refine (room_call I3.out HF.out.1).mono ?_
  rintro e w4 ⟨rfl, hI4, hF4⟩
  rw [HF.out.2.1] at hI4 ⊢
  have hgl : g < w.heap.size := (Array.getElem?_eq_some_iff.1 H.out.1.blk).1
  have I4 := Lib.hid hI4
  have N4 := Lib.hid ((hF4.block w.heap.size (by omega) (by omega)).trans N3.out)
  have F4 := Lib.hid ((Fr.of_below B3.out).trans hF4)
  have S4 : w.heap.size + 1 ≤ w4.heap.size := by have := hF4.size; omega
  clear hI4 hF4
  have q0 : decide ((fi : Int) < 0) = false := decide_eq_false (by omega)
  obtain ⟨x0, x1, y0, y1⟩ := two_of I4.out.blk
  obtain ⟨e0, e1, e2, e3, e4, e5, e6⟩ := I4.out.at m H.out.2.2.1
  go_wp2_with fail
  obtain ⟨w5, hw5, hb5, ht5, hs5⟩ : ∃ w5, w4.alloc (.cells #[.int .i64 (nd l m).f0.f0, .int .i64 (nd l m).f0.f1, .string (nd l m).f0.f2, .int .i64 (nd l m).f1.f0, .int .i64 (nd l m).f1.f1, .string (nd l m).f1.f2, .int .i64 (nd l m).f2] 67) = w5 ∧ Below w4.heap.size w4 w5 ∧
      w5.heap[w4.heap.size]? = some (.cells #[.int .i64 (nd l m).f0.f0, .int .i64 (nd l m).f0.f1, .string (nd l m).f0.f2, .int .i64 (nd l m).f1.f0, .int .i64 (nd l m).f1.f1, .string (nd l m).f1.f2, .int .i64 (nd l m).f2] 67 (0, 0)) ∧ w5.heap.size = w4.heap.size + 1 :=
    ⟨_, rfl, (Below.refl _ _).alloc (Nat.le_refl _) _, heap_alloc_new _ _, by simp⟩
  rw [hw5]
  have hx := main_call (I4.out.below hb5) (nd l m).f0 o 0 HF.out.2.2.2 (by have := H.out.2.2.1; omega)
  unfold kv at hx
  refine hx.mono ?_
  rintro e w6 ⟨rfl, hb6⟩
  simp only [beq_self_eq_true]
  have I6 := Lib.hid ((I4.out.below hb5).below hb6)
  have N6 := Lib.hid ((hb6.block w.heap.size (by omega)).trans ((hb5.block w.heap.size (by omega)).trans N4.out))
  have T6 := Lib.hid ((hb6.block w4.heap.size (by omega)).trans ht5)
  have F6 := Lib.hid (F4.out.trans (Fr.of_below (hb5.trans (hb6.mono (by omega)))))
  clear x0 x1 y0 y1 e0 e1 e2 e3 e4 e5 e6 hx hw5 hb5 ht5 hs5 hb6
  have d1 : decide ((o : Int) = (m : Int)) = false := decide_eq_false (by have := HX.out.2.2; omega)
  have d2 : ((o : Int) == (m : Int)) = false := beq_eq_false_iff_ne.2 (by have := HX.out.2.2; omega)
  have S6 : w4.heap.size + 1 ≤ w6.heap.size := by have := (Array.getElem?_eq_some_iff.1 T6.out).1; omega
  go_wp2_with fail
  go_loopg [9] k (fun kq v9 wr => ∃ i : Nat, v9 = .int .i64 i ∧ RowKit.Hid (aheadL l m kq i = some q) ∧ wr = w6)
  case atStart => exact ⟨o, rfl, HQ, rfl⟩
  case round =>
    obtain ⟨i, rfl, ha, rfl⟩ := hrel
    cases gk with
    | zero => exact absurd ha.out (by simp [aheadL])
    | succ k1 =>
      have ha2 := ha.out
      simp only [aheadL] at ha2
      split at ha2
      case isFalse => cases ha2
      case isTrue hb =>
      obtain ⟨hi, hl1, hl2⟩ := hb
      obtain ⟨x0, x1, y0, y1⟩ := two_of I6.out.blk
      obtain ⟨e0, e1, e2, e3, e4, e5, e6⟩ := I6.out.at i hi
      have hii : (i : Int) ≤ 65536 := by omega
      have p3 : 0 ≤ (i : Int) := by omega
      have p4 : (i : Int) < (l.length : Int) := by omega
      replace p3 := eq_true p3
      replace p4 := eq_true p4
      have q9 : IntKind.i64.wrap ((i : Int) + (nd l i).f2) = (i : Int) + (nd l i).f2 := IntWalk.i64_in _ (by omega)
      have HA := Lib.hid ha2
      have HI := Lib.hid hi
      clear ha2 ha HQ hi
      by_cases hz : (i : Int) + (nd l i).f2 = m
      · have HZ := HA.out
        rw [if_pos hz] at HZ
        have hqi : q = i := (Option.some.inj HZ).symm
        subst hqi
        have b1 : ((q : Int) + (nd l q).f2 != m) = false := by rw [hz]; exact bne_self_eq_false _
        have HAQ := Lib.hid hz
        have hzf := I6.out.free (q * 7 + 6)
        have hI7 := I6.out.setNext q HI.out ((fi : Int) - q)
        have hF7 : Fr (fun k => k = g ∨ k = a) w (wr.setCell ⟨a, q * 7 + 6, none⟩ (.int .i64 ((fi : Int) - q))) := (F6.out.imp (fun k hk => (.inl hk : k = g ∨ k = a))).trans (Fr.imp (fr_set wr a (q * 7 + 6) _) (fun k hk => .inr hk))
        have I7 := Lib.hid hI7
        have F7 := Lib.hid hF7
        have hal : a < w.heap.size := H.out.1.alt
        have N7 := Lib.hid ((Below.heap_setCell wr ⟨a, q * 7 + 6, none⟩ (.int .i64 ((fi : Int) - q)) w.heap.size (by show w.heap.size ≠ a; omega)).trans N6.out)
        have T7 := Lib.hid ((Below.heap_setCell wr ⟨a, q * 7 + 6, none⟩ (.int .i64 ((fi : Int) - q)) w4.heap.size (by show w4.heap.size ≠ a; omega)).trans T6.out)
        obtain ⟨t0, t1, t2, t3, t4, t5, t6⟩ := seven_of T6.out
        clear hz HA HZ hI7 hF7
        go_wp2_with fail
        have hx := link_call I7.out (by have := F7.out.size; have := HX.out.2.1; omega) fi (by rw [List.length_set]; exact HF.out.2.2.1.1) (nd l m) (nd l m) m (by omega) HX.out.1
        unfold nv at hx
        refine hx.mono ?_
        rintro e w8 ⟨rfl, hI8, hF8⟩
        have I8 := Lib.hid hI8
        have F8 := Lib.hid (F7.out.trans (hF8.imp (fun k hk => .inr hk)))
        have N8 := Lib.hid ((hF8.block w.heap.size (Array.getElem?_eq_some_iff.1 N7.out).1 (by omega)).trans N7.out)
        clear hx hI8 hF8 t0 t1 t2 t3 t4 t5 t6 x0 x1 y0 y1 e0 e1 e2 e3 e4 e5 e6
        obtain ⟨x0, x1, y0, y1⟩ := two_of I8.out.blk
        rw [List.length_set, List.length_set] at x0
        obtain ⟨n0, n1, n2, n3, n4, n5, n6⟩ := seven_of N8.out
        have hmx : Try.prog.follows .mixedOrders = true := by kernel_rfl
        go_wp2_with fail
        go_still_tail 7, (by kernel_rfl)
        change wpList _ _ _ _ _ w8.drew
        refine I8.out.drew.store rfl rfl _ _ rfl m (by rw [List.length_set, List.length_set]; exact H.out.2.2.1) n rfl rfl ?_
        intro w9 hI9 hF9
        rw [HL.out] at hI9
        have Q := Lib.hid (And.intro hI9 (F8.out.trans ((Fr.of_below (Below.refl _ _).drew).trans (hF9.imp (fun k hk => .inr hk)))))
        clear hI9 hF9
        go_wp2_with fail
        go_ret
        exact ⟨rfl, Q.out⟩
      · have HZ := HA.out
        rw [if_neg hz] at HZ
        have b1 : ((i : Int) + (nd l i).f2 != m) = true := bne_iff_ne.2 hz
        split at HZ
        case isFalse => cases HZ
        case isTrue hb =>
        have R := Lib.hid (And.intro HZ hb)
        clear hz HZ hb HA
        go_wp2_with fail
        go_roundg k1
        case measure => omega
        case rel => exact ⟨((i : Int) + (nd l i).f2).toNat, congrArg (Value.int .i64) (by have := R.out.2; omega), Lib.hid R.out.1, rfl⟩
end Go.Proofs.Ytlmmhlabacghnaa.PH
/- nodes: Put. -/
namespace Go.Proofs.Ytlmmhlabacghnaa.PH
open Go.RowKit Go.Proofs.YtlmmhlabacghnaaW.PrintWords Go.Proofs.YtlmmhlabacghnaaW.PrintLast Go.Proofs.YtlmmhlabacghnaaW.PrintMore
set_option linter.unusedVariables false
set_option linter.unusedSimpArgs false

/-- A new key goes in: the nodes, the free pointer and the error behind it. -/
inductive Ins (l : List S67) (f : Nat) (n : S67) (m : Nat) : List S67 → Nat → Int → Prop
  | a (he : (nd l m).f0.f0 = 0) : Ins l f n m (l.set m n) f 0
  | b (he : ¬ (nd l m).f0.f0 = 0) (hr : (roomL l f).1 = -1) : Ins l f n m l (roomL l f).2 12
  | c (he : ¬ (nd l m).f0.f0 = 0) (fi : Nat) (hr : roomL l f = ((fi : Int), fi)) (hfi : fi < l.length ∧ fi ≠ m) (ho : hash_Main.f (nd l m).f0.f0 (nd l m).f0.f1 (nd l m).f0.f2 l.length = some ((m : Int), 0))
      (hx : -65536 ≤ (nd l m).f2 ∧ (nd l m).f2 ≤ 65536) : Ins l f n m ((l.set fi ⟨n.f0, n.f1, if (nd l m).f2 = 0 then 0 else (m : Int) + (nd l m).f2 - fi⟩).set m ⟨(nd l m).f0, (nd l m).f1, (fi : Int) - m⟩) fi 0
  | d (he : ¬ (nd l m).f0.f0 = 0) (fi : Nat) (hr : roomL l f = ((fi : Int), fi)) (hfi : fi < l.length ∧ fi ≠ m) (o : Nat) (ho : hash_Main.f (nd l m).f0.f0 (nd l m).f0.f1 (nd l m).f0.f2 l.length = some ((o : Int), 0)) (hom : o ≠ m)
      (hx : -65536 ≤ (nd l m).f2 ∧ (nd l m).f2 ≤ 65536) (k q : Nat) (hq : aheadL l m k o = some q) : Ins l f n m (((l.set q ⟨(nd l q).f0, (nd l q).f1, (fi : Int) - q⟩).set fi ⟨(nd l m).f0, (nd l m).f1, if (nd l m).f2 = 0 then 0 else (m : Int) + (nd l m).f2 - fi⟩).set m n) fi 0

theorem insert_call {B g a cap : Nat} {l : List S67} {f : Nat} {w : World} (h : IsP B g a cap l f w) (hB : B ≤ w.heap.size) (hf : f ≤ l.length) (n : S67) (m : Nat) (hm : hash_Main.f n.f0.f0 n.f0.f1 n.f0.f2 l.length = some ((m : Int), 0)) (hml : m < l.length) {l' : List S67} {f' : Nat} {e : Int} (hi : Ins l f n m l' f' e) :
    Calls Try.prog 80 #[.pointer (some ⟨g, 0, none⟩), nv n] w fun r w' => r = .returned (.int .i64 e) ∧ IsP B g a cap l' f' w' ∧ Fr (fun k => k = g ∨ k = a) w w' := by
  cases hi with
  | a he => exact (insert_a h n m hm hml he).mono fun r w' ⟨p, q, r⟩ => ⟨p, q, r.imp fun k hk => .inr hk⟩
  | b he hr => exact (insert_b h hf n m hm hml he hr).mono fun r w' ⟨p, q, r⟩ => ⟨p, q, r.imp fun k hk => .inl hk⟩
  | c he fi hr hfi ho hx => exact insert_c1 h hB hf n m hm hml he _ hr hfi m ho rfl hx _ rfl
  | d he fi hr hfi o ho hom hx k q hq => exact insert_c2 h hB hf n m hm hml he _ hr hfi o ho hom hx k q hq _ rfl

/-- A node's value is stored. -/
theorem IsP.storeVal {ops : Array Oper} {rest : List Oper} {o : Oper} {ac : Act} {Q : Exit → Act → World → Prop} {B g a cap : Nat} {l : List S67} {f : Int} {W : World} (h : IsP B g a cap l f W) (hN : o.dst = none) (hgd : o.guard = none) (p x : Operand) (ho : o.op = .store 30 p x)
    (i : Nat) (hi : i < l.length) (v : S30) (hp : ac.eval p = .pointer (some ⟨a, i * 7 + 3, none⟩)) (hx : ac.eval x = kv v) (hK : ∀ w1, IsP B g a cap (l.set i ⟨(nd l i).f0, v, (nd l i).f2⟩) f w1 → Fr (fun k => k = a) W w1 → wpList Try.prog ops Q rest ac w1) : wpList Try.prog ops Q (o :: rest) ac W := by
  refine Kd.R_store k67 (w0 := W) (W := W) B hN hgd 30 p x ho 67 (i : Int) 3 l ⟨(nd l i).f0, v, (nd l i).f2⟩ (kv v) [.int .i64 v.f0, .int .i64 v.f1, .string v.f2] (ncells (nd l i)) (fun k => k = a) (fun _ => False) hp (by rw [Int.toNat_natCast]; rfl) hx rfl (by kernel_rfl) (by intro q hq; simp at hq; rcases hq with rfl | rfl | rfl <;> rfl) h.row (by omega) (by omega) rfl ?cc (show 3 + 3 ≤ 7 by decide) ?M (fun _ hk => hk.elim) (Below.refl _ _) ?_
  case cc =>
    obtain ⟨c0, c1, c2, c3, c4, c5, c6⟩ := h.at i hi
    intro j u hu
    rw [Int.toNat_natCast]
    match j, hu with
    | 0, hu => cases hu; exact c0
    | 1, hu => cases hu; exact c1
    | 2, hu => cases hu; exact c2
    | 3, hu => cases hu; exact c3
    | 4, hu => cases hu; exact c4
    | 5, hu => cases hu; exact c5
    | 6, hu => cases hu; exact c6
    | j + 7, hu => simp [ncells] at hu
  case M => exact k67_mkM _ _ _ _
  intro w1 hR hb hg
  have hgl := (Array.getElem?_eq_some_iff.1 h.blk).1
  refine hK w1 ?_ ⟨hg.os, hg.tape, hg.output, hg.size, fun k hk hka => hg.block k hk (fun e => hka (by cases e; rfl))⟩
  rw [Int.toNat_natCast] at hR
  refine ⟨?_, ?_, h.ne, by rw [List.length_set]; exact h.len⟩
  · rw [List.length_set]
    exact (hg.block g hgl (fun e => h.ne (by cases e; rfl))).trans h.blk
  · rw [List.length_set]
    exact hR

/-- The ways of a Put of a key in form, behind the search. -/
inductive PutR (l : List S67) (f : Nat) (k v : S30) (m : Nat) (at_ : Int) : List S67 → Nat → Int → Prop
  | held (i : Nat) (hi : i < l.length) (ha : at_ = i) : PutR l f k v m at_ (l.set i ⟨(nd l i).f0, v, (nd l i).f2⟩) f 0
  | nil (ha : at_ = -1) (hv : v.f0 = 0) : PutR l f k v m at_ l f 0
  | new (ha : at_ = -1) (hv : ¬ v.f0 = 0) (l' : List S67) (f' : Nat) (e : Int) (hi : Ins l f ⟨k, v, 0⟩ m l' f' e) : PutR l f k v m at_ l' f' e

set_option maxHeartbeats 8000000 in
set_option maxRecDepth 100000 in
theorem put_call {B g a cap : Nat} {l : List S67} {f : Nat} {w : World} (h : IsP B g a cap l f w) (hB : B ≤ w.heap.size) (hf : f ≤ l.length) (k v : S30) (hk : okB k.f0 k.f1 k.f2 = true) (hv : okB v.f0 v.f1 v.f2 = true) (hk0 : ¬ k.f0 = 0) (m : Nat) (hm : hash_Main.f k.f0 k.f1 k.f2 l.length = some ((m : Int), 0)) (hml : m < l.length)
    (n : Nat) (at_ r : Int) (hfi : findL l k n m 1 = some (at_, r)) {l' : List S67} {f' : Nat} {e : Int} (hp : PutR l f k v m at_ l' f' e) :
    Calls Try.prog 47 #[.pointer (some ⟨g, 0, none⟩), kv k, kv v] w fun x w' => x = .returned (.tuple #[.int .i64 r, .int .i64 e]) ∧ IsP B g a cap l' f' w' ∧ Fr (fun k => k = g ∨ k = a) w w' := by
  unfold kv
  have H := Lib.hid (And.intro h (And.intro hB (And.intro hf (And.intro hm hml))))
  have HP := Lib.hid (And.intro hfi hp)
  have HK := Lib.hid (And.intro hk hv)
  have hk1 : (k.f0 == 0) = false := beq_eq_false_iff_ne.2 hk0
  have hlen := h.len
  have hgl := (Array.getElem?_eq_some_iff.1 h.blk).1
  have hal := h.alt
  clear h hB hf hm hml hfi hp hk hv hk0
  go_enter Try.func47, Try.ntmps47
  go_wp2_with fail
  obtain ⟨w2, hw2, hb2, hk2, hv2, hs2⟩ : ∃ w2, (w.alloc (.cells #[.int .i64 k.f0, .int .i64 k.f1, .string k.f2] 30)).alloc (.cells #[.int .i64 v.f0, .int .i64 v.f1, .string v.f2] 30) = w2 ∧ Below w.heap.size w w2 ∧
      w2.heap[w.heap.size]? = some (.cells #[.int .i64 k.f0, .int .i64 k.f1, .string k.f2] 30 (0, 0)) ∧ w2.heap[w.heap.size + 1]? = some (.cells #[.int .i64 v.f0, .int .i64 v.f1, .string v.f2] 30 (0, 0)) ∧ w2.heap.size = w.heap.size + 2 :=
    ⟨_, rfl, ((Below.refl _ _).alloc (Nat.le_refl _) _).alloc (by simp) _, (Below.heap_alloc _ _ _ (by simp)).trans (heap_alloc_new _ _), by have := heap_alloc_new (w.alloc (.cells #[.int .i64 k.f0, .int .i64 k.f1, .string k.f2] 30)) (.cells #[.int .i64 v.f0, .int .i64 v.f1, .string v.f2] 30); simpa using this, by simp⟩
  rw [hw2]
  refine (box_Check.calls k.f0 k.f1 k.f2 0 w2 (by unfold box_Check.f; rw [if_pos HK.out.1])).mono ?_
  rintro r1 w3 ⟨rfl, hb3⟩
  have K3 := Lib.hid ((hb3.block w.heap.size (by omega)).trans hk2)
  have V3 := Lib.hid ((hb3.block (w.heap.size + 1) (by omega)).trans hv2)
  have B3 := Lib.hid (hb2.trans (hb3.mono (by omega)))
  have S3 : w.heap.size + 2 ≤ w3.heap.size := by have := hb3.size; omega
  clear hw2 hb2 hk2 hv2 hs2 hb3
  obtain ⟨v0, v1, v2⟩ := three_of V3.out
  go_wp2_with fail
  refine (box_Check.calls v.f0 v.f1 v.f2 0 w3 (by unfold box_Check.f; rw [if_pos HK.out.2])).mono ?_
  rintro r1 w4 ⟨rfl, hb4⟩
  have K4 := Lib.hid ((hb4.block w.heap.size (by omega)).trans K3.out)
  have V4 := Lib.hid ((hb4.block (w.heap.size + 1) (by omega)).trans V3.out)
  have B4 := Lib.hid (B3.out.trans (hb4.mono (by omega)))
  have S4 : w.heap.size + 2 ≤ w4.heap.size := by have := hb4.size; omega
  have I4 := Lib.hid (H.out.1.below B4.out)
  clear v0 v1 v2 hb4
  obtain ⟨k0, k1, k2⟩ := three_of K4.out
  go_wp2_with fail
  have hx := find_call I4.out k m H.out.2.2.2.1 (by have := H.out.2.2.2.2; omega) n at_ r HP.out.1
  unfold kv at hx
  refine hx.mono ?_
  rintro r1 w5 ⟨rfl, hb5⟩
  have K5 := Lib.hid ((hb5.block w.heap.size (by omega)).trans K4.out)
  have V5 := Lib.hid ((hb5.block (w.heap.size + 1) (by omega)).trans V4.out)
  have B5 := Lib.hid (B4.out.trans (hb5.mono (by omega)))
  have S5 : w.heap.size + 2 ≤ w5.heap.size := by have := hb5.size; omega
  have I5 := Lib.hid (I4.out.below hb5)
  clear k0 k1 k2 hb5 hx
  obtain ⟨k0, k1, k2⟩ := three_of K5.out
  obtain ⟨v0, v1, v2⟩ := three_of V5.out
  have hmx : Try.prog.follows .mixedOrders = true := by kernel_rfl
  cases HP.out.2 with
  | held i hi ha =>
    subst ha
    have p1 : 0 ≤ (i : Int) := by omega
    have p2 : (i : Int) < (l.length : Int) := by omega
    replace p1 := eq_true p1
    replace p2 := eq_true p2
    have p3 : decide ((i : Int) ≥ 0) = true := decide_eq_true (by omega)
    have p4 : decide (0 ≤ (i : Int)) = true := decide_eq_true (by omega)
    have hii : (i : Int) ≤ 65536 := by omega
    have HI := Lib.hid hi
    obtain ⟨x0, x1, y0, y1⟩ := two_of I5.out.blk
    clear hi
    go_wp2_with fail
    go_still_tail 8, (by kernel_rfl)
    change wpList _ _ _ _ _ w5.drew
    refine I5.out.drew.storeVal rfl rfl _ _ rfl i HI.out v rfl rfl ?_
    intro w6 hI6 hF6
    have Q := Lib.hid (And.intro hI6 ((Fr.of_below B5.out).trans ((Fr.of_below (Below.refl _ _).drew).trans (hF6.imp (fun k hk => (.inr hk : k = g ∨ k = a))))))
    clear hI6 hF6
    go_wp2_with fail
    go_ret2
    exact ⟨rfl, Q.out⟩
  | nil ha hv =>
    subst ha
    have hvb : (v.f0 == 0) = true := beq_iff_eq.2 hv
    go_wp2_with fail
    go_ret2
    exact ⟨rfl, I5.out, Fr.of_below B5.out⟩
  | new ha hv _ _ _ hi =>
    subst ha
    have hvb : (v.f0 == 0) = false := beq_eq_false_iff_ne.2 hv
    have HI := Lib.hid hi
    clear hi
    go_wp2_with fail
    have hx := insert_call I5.out (by have := B5.out.size; have := H.out.2.1; omega) H.out.2.2.1 ⟨k, v, 0⟩ m H.out.2.2.2.1 H.out.2.2.2.2 HI.out
    unfold nv at hx
    refine hx.mono ?_
    rintro r1 w6 ⟨rfl, hI6, hF6⟩
    have Q := Lib.hid (And.intro hI6 ((Fr.of_below (c := fun k => k = g ∨ k = a) B5.out).trans hF6))
    clear hI6 hF6
    go_wp2_with fail
    go_ret2
    exact ⟨rfl, Q.out⟩
end Go.Proofs.Ytlmmhlabacghnaa.PH
/- nodes: New, At, Dump. -/
namespace Go.Proofs.Ytlmmhlabacghnaa.PH
open Go.RowKit Go.Proofs.YtlmmhlabacghnaaW.PrintWords Go.Proofs.YtlmmhlabacghnaaW.PrintLast Go.Proofs.YtlmmhlabacghnaaW.PrintMore
set_option linter.unusedVariables false
set_option linter.unusedSimpArgs false

/-- The cells of n nodes without keys. -/
def zcells (n : Nat) : Array Value := madeCells (nv z67).cells (n * 7)
theorem mk_row (w : World) (n : Nat) (hn : n ≤ 65536) : Kd.R k67 67 (w.alloc (.cells (zcells n) 67)) w.heap.size (fun k => k = w.heap.size) (.slice (some ⟨w.heap.size, 0, none⟩) n n) (List.replicate n z67) := by
  have hrep : Reps (Kd.M k67 w w.heap.size (fun _ => False)) 7 (List.replicate n z67) (madeCells (nv z67).cells (n * 7)).toList := Kd.reps_made (z := nv z67) rfl (by decide) (k67_mkM _ _ _ _) n
  refine ⟨fun k hk => ?_, (madeCells (nv z67).cells (n * 7)).toList, ?_, ?_⟩
  · have : w.heap.size = k := by simpa [Value.ownBlock] using hk
    exact this.symm
  · have h2 := World.ownsRow_lit (base := w.heap.size) (e := 67) (size := 7) w (madeCells (nv z67).cells (n * 7)) n (Nat.le_refl _) (by simp [maxLen]; omega) (by simp [size_madeCells])
    rw [List.length_replicate]
    exact h2
  · exact hrep.imp_ (fun p c hp => Kd.M_mono _ (fun k hk => hk.1.elim) (Kd.M_below (Kd.M_bound _ hp) (below_alloc (Below.refl _ _) _)))
theorem make_run (w : World) (n : Nat) (hn : n ≤ 65536) : Sem.run Try.prog (Instr.makeSlice 75 (.int .i64 (n : Int)) (.int .i64 (n : Int))) w = .ok (.slice (some ⟨w.heap.size, 0, none⟩) n n) (w.alloc (.cells (zcells n) 67)) := by
  obtain ⟨i0, hi, hz0⟩ : ∃ i, Try.prog.info? 67 = some i ∧ (i.zero, i.size, i.bytes) = (some (nv z67), 7, 72) := by
    have h : (Try.prog.info? 67).map (fun i => (i.zero, i.size, i.bytes)) = some (some (nv z67), 7, 72) := by kernel_rfl
    exact Option.map_eq_some_iff.1 h
  simp only [Prod.mk.injEq] at hz0
  have h := run_make (P := Try.prog) w 75 67 i0 (nv z67) (by kernel_rfl) hi hz0.1 .i64 .i64 (n : Int) (n : Int) (by omega) (Int.le_refl _) (by rw [hz0.2.2]; omega) (by omega)
  rw [hz0.2.1, Int.toNat_natCast] at h
  exact h
set_option maxHeartbeats 4000000 in
set_option maxRecDepth 100000 in
theorem new_call (w : World) (n : Nat) (hn : n ≤ 65536) (hb : Go.bits .and .i64 (n : Int) ((n : Int) - 1) = 0) :
    Calls Try.prog 58 #[.int .i64 n] w fun e w' => ∃ g a cap, e = .returned (.tuple #[.pointer (some ⟨g, 0, none⟩), .int .i64 0]) ∧ IsP w.heap.size g a cap (List.replicate n z67) n w' ∧ Below w.heap.size w w' ∧ w.heap.size ≤ g := by
  have h1 : decide ((n : Int) < 0) = false := decide_eq_false (by omega)
  have h2 : decide ((n : Int) > 65536) = false := decide_eq_false (by omega)
  have h3 : decide (65536 < (n : Int)) = false := decide_eq_false (by omega)
  have hnn : (n : Int) ≤ 65536 := by omega
  have hmk := make_run w n hn
  have HR := Lib.hid (mk_row w n hn)
  have HN := Lib.hid hn
  clear hn
  go_enter Try.func58, Try.ntmps58
  go_wp2_with fail
  obtain ⟨w2, hw2, hI2, hb2⟩ : ∃ w2, (w.alloc (.cells (zcells n) 67)).alloc (.cells #[.slice (some ⟨w.heap.size, 0, none⟩) n n, .int .i64 (n : Int)] 107) = w2 ∧ IsP w.heap.size (w.heap.size + 1) w.heap.size n (List.replicate n z67) n w2 ∧ Below w.heap.size w w2 := by
    refine ⟨_, rfl, ⟨?_, ?_, by omega, by rw [List.length_replicate]; exact HN.out⟩, ((Below.refl _ _).alloc (Nat.le_refl _) _).alloc (by simp) _⟩
    · have h := heap_alloc_new (w.alloc (.cells (zcells n) 67)) (.cells #[.slice (some ⟨w.heap.size, 0, none⟩) n n, .int .i64 (n : Int)] 107)
      rw [List.length_replicate]
      simpa using h
    · rw [List.length_replicate]
      exact Kd.R_below HR.out ((Below.refl _ _).alloc (Nat.le_refl _) _)
  rw [hw2]
  go_ret2
  exact ⟨_, _, _, rfl, hI2, hb2, by omega⟩
end Go.Proofs.Ytlmmhlabacghnaa.PH
/- nodes: At, Dump. -/
namespace Go.Proofs.Ytlmmhlabacghnaa.PH
open Go.RowKit Go.Proofs.YtlmmhlabacghnaaW.PrintWords Go.Proofs.YtlmmhlabacghnaaW.PrintLast Go.Proofs.YtlmmhlabacghnaaW.PrintMore
set_option linter.unusedVariables false
set_option linter.unusedSimpArgs false

theorem seven_set {w : World} {G : Nat} {t : TypeId} {a b c d e f h : Value} (x0 x1 x2 x3 x4 x5 x6 : Value) (hn : w.heap[G]? = some (.cells #[a, b, c, d, e, f, h] t (0, 0))) {W0 : World} (hb : Below G W0 w) :
    (((((((w.setCell ⟨G, 0, none⟩ x0).setCell ⟨G, 1, none⟩ x1).setCell ⟨G, 2, none⟩ x2).setCell ⟨G, 3, none⟩ x3).setCell ⟨G, 4, none⟩ x4).setCell ⟨G, 5, none⟩ x5).setCell ⟨G, 6, none⟩ x6).heap[G]? = some (.cells #[x0, x1, x2, x3, x4, x5, x6] t (0, 0)) ∧
    Below G W0 (((((((w.setCell ⟨G, 0, none⟩ x0).setCell ⟨G, 1, none⟩ x1).setCell ⟨G, 2, none⟩ x2).setCell ⟨G, 3, none⟩ x3).setCell ⟨G, 4, none⟩ x4).setCell ⟨G, 5, none⟩ x5).setCell ⟨G, 6, none⟩ x6) := by
  have hle : G ≤ G := Nat.le_refl _
  refine ⟨?_, ((((((hb.setCell (p := ⟨G, 0, none⟩) hle x0).setCell (p := ⟨G, 1, none⟩) hle x1).setCell (p := ⟨G, 2, none⟩) hle x2).setCell (p := ⟨G, 3, none⟩) hle x3).setCell (p := ⟨G, 4, none⟩) hle x4).setCell (p := ⟨G, 5, none⟩) hle x5).setCell (p := ⟨G, 6, none⟩) hle x6⟩
  refine blk_put (cs := #[x0, x1, x2, x3, x4, x5, h]) ?_ 6 _ rfl
  refine blk_put (cs := #[x0, x1, x2, x3, x4, f, h]) ?_ 5 _ rfl
  refine blk_put (cs := #[x0, x1, x2, x3, e, f, h]) ?_ 4 _ rfl
  refine blk_put (cs := #[x0, x1, x2, d, e, f, h]) ?_ 3 _ rfl
  refine blk_put (cs := #[x0, x1, c, d, e, f, h]) ?_ 2 _ rfl
  refine blk_put (cs := #[x0, b, c, d, e, f, h]) ?_ 1 _ rfl
  refine blk_put (cs := #[a, b, c, d, e, f, h]) ?_ 0 _ rfl
  exact hn
set_option maxHeartbeats 4000000 in
set_option maxRecDepth 100000 in
theorem at_call {B g a cap : Nat} {l : List S67} {f : Int} {w : World} (h : IsP B g a cap l f w) (i : Nat) (hi : i < l.length) :
    Calls Try.prog 48 #[.pointer (some ⟨g, 0, none⟩), .int .i64 i] w fun e w' => e = .returned (nv (nd l i)) ∧ Below w.heap.size w w' := by
  have H := Lib.hid h
  have p1 : 0 ≤ (i : Int) := by omega
  have p2 : (i : Int) < (l.length : Int) := by omega
  have hlen := h.len
  have hii : (i : Int) ≤ 65536 := by omega
  replace p1 := eq_true p1
  replace p2 := eq_true p2
  have p3 : decide ((i : Int) < 0) = false := decide_eq_false (by omega)
  have p4 : decide ((i : Int) ≥ l.length) = false := decide_eq_false (by omega)
  have p5 : decide ((l.length : Int) ≤ i) = false := decide_eq_false (by omega)
  have p6 : decide (l.length ≤ i) = false := decide_eq_false (by omega)
  have p7 : ((l.length : Int) ≤ (i : Int)) = False := eq_false (by omega)
  have p8 : (l.length ≤ i) = False := eq_false (by omega)
  have HI := Lib.hid hi
  clear h hi
  go_enter Try.func48, Try.ntmps48
  go_wp2_with fail
  obtain ⟨w1, hw1, hb1, hn1, hs1⟩ : ∃ w1, w.alloc (.cells #[.int .i64 0, .int .i64 0, .string (⟨#[]⟩ : ByteArray), .int .i64 0, .int .i64 0, .string (⟨#[]⟩ : ByteArray), .int .i64 0] 67) = w1 ∧ Below w.heap.size w w1 ∧ w1.heap[w.heap.size]? = some (.cells #[.int .i64 0, .int .i64 0, .string (⟨#[]⟩ : ByteArray), .int .i64 0, .int .i64 0, .string (⟨#[]⟩ : ByteArray), .int .i64 0] 67 (0, 0)) ∧ w1.heap.size = w.heap.size + 1 :=
    ⟨_, rfl, (Below.refl _ _).alloc (Nat.le_refl _) _, heap_alloc_new _ _, by simp⟩
  rw [hw1]
  have H1 := Lib.hid (H.out.below hb1)
  refine (size_call H1.out).mono ?_
  rintro e1 w2 ⟨rfl, rfl⟩
  have HB := Lib.hid (And.intro hb1 hn1)
  clear hb1 hn1 hw1
  obtain ⟨x0, x1, y0, y1⟩ := two_of H1.out.blk
  obtain ⟨e0, e1, e2, e3, e4, e5, e6⟩ := H1.out.at i HI.out
  obtain ⟨z0, z1, z2, z3, z4, z5, z6⟩ := seven_of HB.out.2
  have u0 := blk_frozen HB.out.2 0
  have u1 := blk_frozen HB.out.2 1
  have u2 := blk_frozen HB.out.2 2
  have u3 := blk_frozen HB.out.2 3
  have u4 := blk_frozen HB.out.2 4
  have u5 := blk_frozen HB.out.2 5
  have u6 := blk_frozen HB.out.2 6
  go_wp2_with fail
  obtain ⟨hb, hn⟩ := HB.out
  obtain ⟨G, hG⟩ : ∃ G, w.heap.size = G := ⟨_, rfl⟩
  rw [hG] at hb hn ⊢
  clear HB z0 z1 z2 z3 z4 z5 z6 u0 u1 u2 u3 u4 u5 u6 e0 e1 e2 e3 e4 e5 e6 x0 x1 y0 y1
  obtain ⟨hg, hB⟩ := seven_set (.int .i64 (nd l i).f0.f0) (.int .i64 (nd l i).f0.f1) (.string (nd l i).f0.f2) (.int .i64 (nd l i).f1.f0) (.int .i64 (nd l i).f1.f1) (.string (nd l i).f1.f2) (.int .i64 (nd l i).f2) hn hb
  exact bodyPost_ret (results_cell_row rfl _ _ G 67 _ (0, 0) _ rfl hg Try.underlying67 rfl (by kernel_rfl)) rfl ⟨rfl, hB⟩
end Go.Proofs.Ytlmmhlabacghnaa.PH
