import Derived.Test.YtaoippnipcchmaaGreatDoorMD
import Derived.Deep.RegionLaw
import Derived.Test.YtaoippnipcchmaaGreatDoorPTx9
/- TopCode: checker.constant. -/
namespace Go.Proofs.YtaoippnipcchmaaGreatDoor.PT
open Go.RowKit Go.Proofs.YtaoippnipcchmaaGreatDoorW.PrintWords Go.Proofs.YtaoippnipcchmaaGreatDoorW.PrintLast Go.Proofs.YtaoippnipcchmaaGreatDoorW.PrintMore
open Go.Proofs.YtaoippnipcchmaaGreatDoor.TP
set_option linter.unusedVariables false
set_option linter.unusedSimpArgs false

theorem info_val : (Tryz.prog.info? 67).map (fun i => (i.zero, i.size, i.bytes)) = some (some (.agg #[.int .i64 0, .int .i64 0, .string (⟨#[]⟩ : ByteArray)]), 3, 32) := by kernel_rfl
set_option maxHeartbeats 8000000 in
set_option maxRecDepth 100000 in
theorem constant_call {w0 w : World} {g s : Nat} {vF vG v : Value} {at_ : Int} {cs : List Int} (h : Ck w0 g s vF vG at_ cs v w) (hl : cs.length < 250) (n : Nat) (x0 : Int) (x1 : ByteArray) (x2 x3 : Int) (A : Option Addr) (m c : Nat) :
    Calls Tryz.prog 41 #[.pointer (some ⟨g, 0, none⟩), .agg #[.int .i64 x0, .string x1, .int .i64 x2, .int .i64 x3, .slice A m c], .agg #[.int .i64 2, .int .i64 n, .string ⟨#[]⟩]] w
      fun r w' => r = .returned (.tuple #[]) ∧ ∃ v', Ck w0 g s vF vG at_ (addN cs n) v' w' ∧ Adv s v v' w w' := by
  have H := Lib.hid h
  have HL := Lib.hid hl
  have hcl : (cs.length : Int) ≤ 250 := by omega
  have hwr : IntKind.i64.wrap ((cs.length : Int) + 1) = (cs.length : Int) + 1 := IntWalk.i64_in _ (by omega)
  obtain ⟨Av, cv, rfl, hcv, hC⟩ := h.slice
  have HC := Lib.hid (And.intro hcv hC)
  have hmx : Tryz.prog.follows .mixedOrders = true := by kernel_rfl
  clear h hl hcv hC
  go_enter Tryz.func41, Tryz.ntmps41
  go_wp2_with fail
  obtain ⟨w1, hw1, hb1, hn1, hv1, hs1⟩ : ∃ w1, (w.alloc (.cells #[.int .i64 x0, .string x1, .int .i64 x2, .int .i64 x3, .slice A m c] 51)).alloc (.cells #[.int .i64 2, .int .i64 n, .string ⟨#[]⟩] 67) = w1 ∧ Below w.heap.size w w1 ∧ w1.heap[w.heap.size]? = some (.cells #[.int .i64 x0, .string x1, .int .i64 x2, .int .i64 x3, .slice A m c] 51 (0, 0)) ∧ w1.heap[w.heap.size + 1]? = some (.cells #[.int .i64 2, .int .i64 n, .string ⟨#[]⟩] 67 (0, 0)) ∧ w1.heap.size = w.heap.size + 2 :=
    ⟨_, rfl, ((Below.refl _ _).alloc (Nat.le_refl _) _).alloc (by simp) _, (Below.heap_alloc _ _ _ (by simp)).trans (heap_alloc_new _ _), by have := heap_alloc_new (w.alloc (.cells #[.int .i64 x0, .string x1, .int .i64 x2, .int .i64 x3, .slice A m c] 51)) (.cells #[.int .i64 2, .int .i64 n, .string ⟨#[]⟩] 67); simpa using this, by simp⟩
  rw [hw1]
  have H1 := Lib.hid (H.out.below hb1)
  have N1 := Lib.hid hn1
  have V1 := Lib.hid hv1
  have B1 := Lib.hid hb1
  have C1 := Lib.hid (Kd.C_below (Kd.C_below HC.out.2 hb1) (Below.refl _ _).drew)
  clear hw1 hb1 hn1 hv1
  obtain ⟨g0, g1, g2⟩ := three_of H1.out.bg
  obtain ⟨s0, s1, s2, s3, s4, s5, s6, s7⟩ := eight_of H1.out.bs
  obtain ⟨v0, v1, v2⟩ := three_of V1.out
  go_still_tail 9, (by kernel_rfl)
  change wpList _ _ _ _ _ w1.drew
  have hx := api_Val_80.calls (cs.length + 1) Av cv (valsOf cs) 2 n ⟨#[]⟩ (decide ((n : Int) ∈ cs)) w1.drew (by rw [valsOf_len]; exact C1.out) (by rw [valsOf_len]; exact HC.out.1) (has_val cs n (by have := HL.out; omega))
  rw [valsOf_len] at hx
  go_wp2_with fail
  by_cases hin : (n : Int) ∈ cs
  · rw [decide_eq_true hin] at hx
    have HI := Lib.hid hin
    clear hin
    refine hx.mono ?_
    rintro r w2 ⟨rfl, hb2⟩
    have Q2 := Lib.hid (And.intro (B1.out.trans ((below_drew1 (Below.refl w1.heap.size w1)).mono B1.out.size)) hb2)
    clear hx hb2 g0 g1 g2 s0 s1 s2 s3 s4 s5 s6 s7 v0 v1 v2
    go_wp2_with fail
    go_end0
    have hB := Q2.out.1.trans (Q2.out.2.mono Q2.out.1.size)
    refine ⟨rfl, _, ?_, Adv.of_below hB⟩
    unfold addN
    rw [if_pos HI.out]
    exact H.out.below hB
  · rw [decide_eq_false hin] at hx
    have HI := Lib.hid hin
    clear hin
    refine hx.mono ?_
    rintro r w2 ⟨rfl, hb2⟩
    have hb12 := (below_drew1 (Below.refl w1.heap.size w1)).trans hb2
    have H2 := Lib.hid (H1.out.below hb12)
    have N2 := Lib.hid (Bel.blk hb12 N1.out)
    have V2 := Lib.hid (Bel.blk hb12 V1.out)
    have B2 := Lib.hid (B1.out.trans (hb12.mono B1.out.size))
    clear hx hb2 hb12 g0 g1 g2 s0 s1 s2 s3 s4 s5 s6 s7 v0 v1 v2 H1 N1 V1 B1 C1
    obtain ⟨g0, g1, g2⟩ := three_of H2.out.bg
    obtain ⟨s0, s1, s2, s3, s4, s5, s6, s7⟩ := eight_of H2.out.bs
    obtain ⟨n0, n1, n2, n3, n4⟩ := five_of N2.out
    go_wp2_with fail
    go_still_tail 11, (by kernel_rfl)
    change wpList _ _ _ _ _ w2.drew
    go_wp2_with fail
    refine (few_call x0 x1 x2 x3 A m c ((cs.length : Int) + 1) 250 (by have := HL.out; omega) w2.drew).mono ?_
    rintro r w3 ⟨rfl, hb3⟩
    have hb23 := (below_drew1 (Below.refl w2.heap.size w2)).trans hb3
    have G3 := Lib.hid (H2.out.below hb23)
    have H3 := Lib.hid ((H2.out.below hb23).below (Below.refl _ _).drew)
    have V3 := Lib.hid (Bel.blk hb23 V2.out)
    have B3 := Lib.hid ((B2.out.trans (hb23.mono B2.out.size)).trans ((below_drew1 (Below.refl w3.heap.size w3)).mono (B2.out.trans (hb23.mono B2.out.size)).size))
    clear hb3 hb23 g0 g1 g2 s0 s1 s2 s3 s4 s5 s6 s7 n0 n1 n2 n3 n4 H2 N2 V2 B2
    obtain ⟨g0, g1, g2⟩ := three_of G3.out.bg
    obtain ⟨s0, s1, s2, s3, s4, s5, s6, s7⟩ := eight_of G3.out.bs
    obtain ⟨v0, v1, v2⟩ := three_of V3.out
    have hbb := H3.out.b0.size
    have hgs := H3.out.gs
    have HK3 := Lib.hid (fun k hk => ⟨by have := blt H3.out.bg; omega, by have := blt H3.out.bs; omega⟩ : ∀ k, w3.drew.heap.size ≤ k → k ≠ g ∧ k ≠ s)
    have ga := Lib.hid (blk_alloc G3.out.bg (.cells #[.int .i64 2, .int .i64 n, .string ⟨#[]⟩] 67))
    have sa := Lib.hid (blk_alloc G3.out.bs (.cells #[.int .i64 2, .int .i64 n, .string ⟨#[]⟩] 67))
    obtain ⟨ga0, ga1, ga2⟩ := three_of ga.out
    obtain ⟨sa0, sa1, sa2, sa3, sa4, sa5, sa6, sa7⟩ := eight_of sa.out
    go_wp2_with fail
    go_region_law (first | (refine Kd.R_append_step k67 (w0 := w0) (W := w3.drew) w0.heap.size rfl (.tmp 40) (.tmp 42) 36 67 (.agg #[.int .i64 0, .int .i64 0, .string (⟨#[]⟩ : ByteArray)]) 32 rfl Tryz.underlying36 info_val rfl (by decide) (by decide) (.slice Av cs.length cv) (valsOf cs) (vInt n) [.int .i64 2, .int .i64 n, .string ⟨#[]⟩] (fun k => k ≠ g ∧ k ≠ s) (fun _ => False) rfl rfl (k67_mkM _ _ _ (vInt n)) (fun _ hk => hk.elim) (fun k hk => HK3.out k hk) H3.out.row H3.out.b0 hbb (by rw [valsOf_len]; have := HL.out; omega) ?_; intro v4 w4 hR4 hB4 hg4 hat4; obtain ⟨A4, c4, rfl⟩ := Kd.R_slice hR4; have H4 := Lib.hid (⟨hR4, hB4, hg4, hat4⟩ : _ ∧ _ ∧ _ ∧ _); have g4_ := Lib.hid ((hg4.block g (blt H3.out.bg) (fun e => (H3.out.row.1 g e.symm).1 rfl)).trans H3.out.bg); have s4_ := Lib.hid ((hg4.block s (blt H3.out.bs) (fun e => (H3.out.row.1 s e.symm).2 rfl)).trans H3.out.bs); clear hR4 hB4 hg4 hat4; obtain ⟨gb0, gb1, gb2⟩ := three_of g4_.out; obtain ⟨sb0, sb1, sb2, sb3, sb4, sb5, sb6, sb7⟩ := eight_of s4_.out; have sf := blk_frozen s4_.out 4))
    all_goals
      go_end0
      have hQ := constant_end H.out B3.out H4.out.1 H4.out.2.1 H4.out.2.2.1 H4.out.2.2.2 g4_.out s4_.out HI.out
      rw [show (valsOf cs ++ [vInt (n : Int)]).length = (valsOf cs).length + 1 from by simp] at hQ
      exact ⟨rfl, _, hQ.1, hQ.2⟩
end Go.Proofs.YtaoippnipcchmaaGreatDoor.PT
/- TopCode: checker.nodes over contracts of its children. -/
namespace Go.Proofs.YtaoippnipcchmaaGreatDoor.PT
open Go.RowKit Go.Proofs.YtaoippnipcchmaaGreatDoorW.PrintWords Go.Proofs.YtaoippnipcchmaaGreatDoorW.PrintLast Go.Proofs.YtaoippnipcchmaaGreatDoorW.PrintMore
open Go.Proofs.YtaoippnipcchmaaGreatDoor.TP
set_option linter.unusedVariables false
set_option linter.unusedSimpArgs false

/-- What a call of the checker comes to. -/
def CkRes (w0 : World) (g s : Nat) (vF vG : Value) (at_ : Int) (cs' : List Int) (v : Value) (w : World) (r : Ending) (w' : World) : Prop := r = .returned (.tuple #[]) ∧ ∃ v', Ck w0 g s vF vG at_ cs' v' w' ∧ Adv s v v' w w'
/-- The contract of checker.node at a node. -/
def NodeC (w0 : World) (g s : Nat) (vF vG : Value) (at_ : Int) (x : Nd) (ns : List Nat) : Prop := ∀ (w : World) (cs : List Int) (v : Value) (A : Option Addr) (c : Nat), cs.length + ns.length ≤ 250 → Ck w0 g s vF vG at_ cs v w → x.f4.length ≤ c → Kd.C k51 w0 A x.f4.length x.f4 → Calls Tryz.prog 14 #[.pointer (some ⟨g, 0, none⟩), .agg #[.int .i64 x.f0, .string x.f1, .int .i64 x.f2, .int .i64 x.f3, .slice A x.f4.length c], .bool false] w (CkRes w0 g s vF vG at_ (ns.foldl addN cs) v w)
def after (cs : List Int) (nss : List (List Nat)) (j : Nat) : List Int := (nss.take j).flatten.foldl addN cs
theorem after_succ (cs : List Int) (nss : List (List Nat)) (j : Nat) (hj : j < nss.length) : after cs nss (j + 1) = nss[j].foldl addN (after cs nss j) := by
  unfold after
  rw [List.take_succ_eq_append_getElem hj, List.flatten_append, List.foldl_append]
  simp
theorem after_len (cs : List Int) (nss : List (List Nat)) (j : Nat) (hj : j < nss.length) (h : cs.length + nss.flatten.length ≤ 250) : (after cs nss j).length + nss[j].length ≤ 250 := by
  have h1 : (after cs nss j).length ≤ cs.length + (nss.take j).flatten.length := foldl_len _ _
  have h2 : nss.flatten.length = (nss.take j).flatten.length + (nss.drop j).flatten.length := by rw [← List.length_append, ← List.flatten_append, List.take_append_drop]
  rw [List.drop_eq_getElem_cons hj, List.flatten_cons, List.length_append] at h2
  omega
set_option maxHeartbeats 8000000 in
set_option maxRecDepth 100000 in
theorem nodes_call {w0 w : World} {g s : Nat} {vF vG v : Value} {at_ : Int} {cs : List Int} (h : Ck w0 g s vF vG at_ cs v w) (xs : List Nd) (nss : List (List Nat)) (hlen : nss.length = xs.length) (hcs : cs.length + nss.flatten.length ≤ 250) (A : Option Addr) (c : Nat) (hc : xs.length ≤ c) (hC : Kd.C k51 w0 A xs.length xs)
    (hN : ∀ j, j < xs.length → NodeC w0 g s vF vG at_ (rd_T51 xs (j : Int)) (nss.getD j [])) :
    Calls Tryz.prog 22 #[.pointer (some ⟨g, 0, none⟩), .slice A xs.length c] w (CkRes w0 g s vF vG at_ (nss.flatten.foldl addN cs) v w) := by
  have H := Lib.hid h
  have HC := Lib.hid (And.intro hc hC)
  have HN := Lib.hid hN
  have HL := Lib.hid (And.intro hlen hcs)
  have hmx := Lib.hid (Kd.C_max hC)
  have hu51 := Tryz.underlying51
  clear h hc hC hN hlen hcs
  go_enter Tryz.func22, Tryz.ntmps22
  go_wp2_with fail
  go_loopg [8] xs.length (fun kq v8 wr => ∃ j : Nat, v8 = .int .i64 (j : Int) ∧ RowKit.Hid (kq + j = xs.length ∧ ∃ v', Ck w0 g s vF vG at_ (after cs nss j) v' wr ∧ Adv s v v' w wr))
  case atStart =>
    refine ⟨0, rfl, Lib.hid ⟨rfl, v, ?_, ?_⟩⟩
    · exact H.out
    · exact Adv.of_below (Below.refl _ _)
  case round =>
    obtain ⟨j, rfl, HJ⟩ := hrel
    obtain ⟨v1, hk1⟩ := HJ.out.2
    have K1 := Lib.hid hk1
    clear hk1
    by_cases hj : j < xs.length
    · obtain ⟨k1, rfl⟩ : ∃ k1, gk = k1 + 1 := ⟨gk - 1, by have := HJ.out.1; omega⟩
      have c1 : decide ((j : Int) < (xs.length : Int)) = true := decide_eq_true (by omega)
      have p1 : (0 ≤ (j : Int)) = True := eq_true (by omega)
      have q1 : ((j : Int) < (xs.length : Int)) = True := eq_true (by omega)
      obtain ⟨ad, A4, c4, e, x0, x1, x2, x3, x4, l4, g4⟩ := at_T51 HC.out.2 (j : Int) (by omega) (by omega)
      have hj_ := Lib.hid hj
      clear hj
      cases e
      have hb0 := K1.out.1.b0
      replace x0 := (hb0.cell (World.block_lt_of_cell? w0 _ x0)).trans x0
      replace x1 := (hb0.cell (World.block_lt_of_cell? w0 _ x1)).trans x1
      replace x2 := (hb0.cell (World.block_lt_of_cell? w0 _ x2)).trans x2
      replace x3 := (hb0.cell (World.block_lt_of_cell? w0 _ x3)).trans x3
      replace x4 := (hb0.cell (World.block_lt_of_cell? w0 _ x4)).trans x4
      rw [Int.toNat_natCast] at x0 x1 x2 x3 x4
      have hN := Lib.hid (HN.out j hj_.out)
      have R4 := Lib.hid (And.intro l4 g4)
      clear hb0 l4 g4
      go_wp2_with (first | ((with_reducible refine gate_dst (N := 5) rfl ?_); refine box_event ?hg (N := 5) ?hd (cs := #[.int .i64 0, .string (⟨#[]⟩ : ByteArray), .int .i64 0, .int .i64 0, .slice none 0 0]) (t := 51) ?hr ?_; (case hd => rfl); (case hg => rfl); (case hr => first | (go_simp; done) | (go_simp; rfl)); intro gb hg w9 hbox hb; have HB9 := Lib.hid (And.intro hg hb); have bx := Lib.hid hbox; have z0 : w9.cell? ⟨gb, 0, none⟩ = some (.int .i64 0) := (blk_cell hbox 0).trans rfl; have z1 : w9.cell? ⟨gb, 1, none⟩ = some (.string (⟨#[]⟩ : ByteArray)) := (blk_cell hbox 1).trans rfl; have z2 : w9.cell? ⟨gb, 2, none⟩ = some (.int .i64 0) := (blk_cell hbox 2).trans rfl; have z3 : w9.cell? ⟨gb, 3, none⟩ = some (.int .i64 0) := (blk_cell hbox 3).trans rfl; have z4 : w9.cell? ⟨gb, 4, none⟩ = some (.slice none 0 0) := (blk_cell hbox 4).trans rfl; have f0 := blk_frozen hbox 0; have f1 := blk_frozen hbox 1; have f2 := blk_frozen hbox 2; have f3 := blk_frozen hbox 3; have f4 := blk_frozen hbox 4; clear hbox hb hg))
      have hle : wr.heap.size ≤ gb := by have := HB9.out.1; omega
      have hbW := ((((HB9.out.2.setCell (p := ⟨gb, 0, none⟩) hle (.int .i64 (rd_T51 xs (j : Int)).f0)).setCell (p := ⟨gb, 1, none⟩) hle (.string (rd_T51 xs (j : Int)).f1)).setCell (p := ⟨gb, 2, none⟩) hle (.int .i64 (rd_T51 xs (j : Int)).f2)).setCell (p := ⟨gb, 3, none⟩) hle (.int .i64 (rd_T51 xs (j : Int)).f3)).setCell (p := ⟨gb, 4, none⟩) hle (.slice A4 (rd_T51 xs (j : Int)).f4.length c4)
      have hjl : j < nss.length := by have := HL.out.1; have := hj_.out; omega
      have hgd : nss.getD j [] = nss[j] := by rw [List.getD_eq_getElem?_getD, List.getElem?_eq_getElem hjl]; rfl
      refine (hN.out _ (after cs nss j) v1 A4 c4 (by rw [hgd]; exact after_len cs nss j hjl HL.out.2) (K1.out.1.below hbW) R4.out.1 R4.out.2).mono ?_
      rintro r w5 ⟨rfl, v5, hK5, hA5⟩
      have K5 := Lib.hid (And.intro (show Ck w0 g s vF vG at_ (after cs nss (j + 1)) v5 w5 by rw [after_succ cs nss j hjl, ← hgd]; exact hK5) ((K1.out.2.trans (Adv.of_below hbW)).trans hA5))
      have hsum := Lib.hid (show k1 + (j + 1) = xs.length by have := HJ.out.1; omega)
      have hwr : IntKind.i64.wrap ((j : Int) + 1) = (j : Int) + 1 := IntWalk.i64_in _ (by have := hmx.out; have := hj_.out; omega)
      clear hbW hK5 hA5 hgd hjl hle x0 x1 x2 x3 x4 z0 z1 z2 z3 z4 f0 f1 f2 f3 f4
      go_wp2_with fail
      go_roundg k1
      case measure => omega
      case rel => exact ⟨j + 1, rfl, Lib.hid ⟨hsum.out, v5, K5.out.1, K5.out.2⟩⟩
    · have c1 : decide ((j : Int) < (xs.length : Int)) = false := decide_eq_false (by omega)
      have hj_ := Lib.hid hj
      clear hj
      go_wp2_with fail
      go_end0
      have hjn : j = xs.length := by have := HJ.out.1; have := hj_.out; omega
      have e : after cs nss j = nss.flatten.foldl addN cs := by unfold after; rw [hjn, ← HL.out.1, List.take_length]
      exact ⟨rfl, v1, e ▸ K1.out.1, K1.out.2⟩
end Go.Proofs.YtaoippnipcchmaaGreatDoor.PT
/- TopCode: checker.exp, checker.node. -/
namespace Go.Proofs.YtaoippnipcchmaaGreatDoor.PT
open Go.RowKit Go.Proofs.YtaoippnipcchmaaGreatDoorW.PrintWords Go.Proofs.YtaoippnipcchmaaGreatDoorW.PrintLast Go.Proofs.YtaoippnipcchmaaGreatDoorW.PrintMore
open Go.Proofs.YtaoippnipcchmaaGreatDoor.TP
set_option linter.unusedVariables false
set_option linter.unusedSimpArgs false

/-- A node's box is laid. -/
theorem box_node (w : World) (k : Int) (t : ByteArray) (n a : Int) (sl : Value) : ∃ w1, w.alloc (.cells #[.int .i64 k, .string t, .int .i64 n, .int .i64 a, sl] 51) = w1 ∧ Below w.heap.size w w1 ∧ w1.heap[w.heap.size]? = some (.cells #[.int .i64 k, .string t, .int .i64 n, .int .i64 a, sl] 51 (0, 0)) :=
  ⟨_, rfl, below_alloc (Below.refl _ _) _, heap_alloc_new _ _⟩
set_option maxHeartbeats 8000000 in
set_option maxRecDepth 100000 in
theorem exp_other {w0 w : World} {g s : Nat} {vF vG v : Value} {at_ : Int} {cs : List Int} (h : Ck w0 g s vF vG at_ cs v w) (k : Int) (hk : k = 9 ∨ k = 10 ∨ k = 11) (t : ByteArray) (n a : Int) (xs : List Nd) (nss : List (List Nat)) (hlen : nss.length = xs.length) (hcs : cs.length + nss.flatten.length ≤ 250) (A : Option Addr) (c : Nat) (hc : xs.length ≤ c) (hC : Kd.C k51 w0 A xs.length xs)
    (hN : ∀ j, j < xs.length → NodeC w0 g s vF vG at_ (rd_T51 xs (j : Int)) (nss.getD j [])) (b : Bool) :
    Calls Tryz.prog 27 #[.pointer (some ⟨g, 0, none⟩), .agg #[.int .i64 k, .string t, .int .i64 n, .int .i64 a, .slice A xs.length c], .bool b] w (CkRes w0 g s vF vG at_ (nss.flatten.foldl addN cs) v w) := by
  have H := Lib.hid h
  have HQ := fun W (hW : Below w.heap.size w W) => nodes_call (H.out.below hW) xs nss hlen hcs A c hc hC hN
  have HQ := Lib.hid HQ
  clear h hlen hcs hc hC hN
  rcases hk with rfl | rfl | rfl
  all_goals
    go_enter Tryz.func27, Tryz.ntmps27
    go_wp2_with fail
    obtain ⟨w1, hw1, hb1, hn1⟩ := box_node w _ t n a (.slice A xs.length c)
    rw [hw1]
    have B1 := Lib.hid hb1
    have N1 := Lib.hid hn1
    obtain ⟨n0, n1, n2, n3, n4⟩ := five_of hn1
    clear hw1 hb1 hn1
    go_wp2_with fail
    refine (HQ.out _ (B1.out)).mono ?_
    rintro r w2 ⟨rfl, v2, hK2, hA2⟩
    have K2 := Lib.hid (And.intro hK2 ((Adv.of_below B1.out).trans hA2))
    clear hK2 hA2 n0 n1 n2 n3 n4
    go_wp2_with fail
    go_end0
    exact ⟨rfl, v2, K2.out.1, K2.out.2⟩
set_option maxHeartbeats 8000000 in
set_option maxRecDepth 100000 in
theorem exp_ret {w0 w : World} {g s : Nat} {vF vG v : Value} {at_ : Int} {cs : List Int} (h : Ck w0 g s vF vG at_ cs v w) (t : ByteArray) (n a : Int) (xs : List Nd) (hx50 : xs.length ≤ 50) (nss : List (List Nat)) (hlen : nss.length = xs.length) (hcs : cs.length + nss.flatten.length ≤ 250) (A : Option Addr) (c : Nat) (hc : xs.length ≤ c) (hC : Kd.C k51 w0 A xs.length xs)
    (hN : ∀ j, j < xs.length → NodeC w0 g s vF vG at_ (rd_T51 xs (j : Int)) (nss.getD j [])) (b : Bool) :
    Calls Tryz.prog 27 #[.pointer (some ⟨g, 0, none⟩), .agg #[.int .i64 30, .string t, .int .i64 n, .int .i64 a, .slice A xs.length c], .bool b] w (CkRes w0 g s vF vG at_ (nss.flatten.foldl addN cs) v w) := by
  have H := Lib.hid h
  have HQ := fun W (hW : Below w.heap.size w W) => nodes_call (H.out.below hW) xs nss hlen hcs A c hc hC hN
  have HQ := Lib.hid HQ
  have HX := Lib.hid hx50
  clear h hlen hcs hc hC hN hx50
  go_enter Tryz.func27, Tryz.ntmps27
  go_wp2_with fail
  obtain ⟨w1, hw1, hb1, hn1⟩ := box_node w 30 t n a (.slice A xs.length c)
  rw [hw1]
  have B1 := Lib.hid hb1
  have N1 := Lib.hid hn1
  obtain ⟨n0, n1, n2, n3, n4⟩ := five_of hn1
  clear hw1 hb1 hn1
  go_wp2_with fail
  refine (few_call 30 t n a A xs.length c (xs.length : Int) 50 (by have := HX.out; omega) _).mono ?_
  rintro r w3 ⟨rfl, hb3⟩
  have B3 := Lib.hid (B1.out.trans (hb3.mono B1.out.size))
  have N3 := Lib.hid (Bel.blk hb3 N1.out)
  clear hb3 n0 n1 n2 n3 n4
  obtain ⟨n0, n1, n2, n3, n4⟩ := five_of N3.out
  go_wp2_with fail
  refine (HQ.out _ (B3.out)).mono ?_
  rintro r w2 ⟨rfl, v2, hK2, hA2⟩
  have K2 := Lib.hid (And.intro hK2 ((Adv.of_below B3.out).trans hA2))
  clear hK2 hA2 n0 n1 n2 n3 n4
  go_wp2_with fail
  go_end0
  exact ⟨rfl, v2, K2.out.1, K2.out.2⟩
set_option maxHeartbeats 8000000 in
set_option maxRecDepth 100000 in
theorem exp_leaf {w0 w : World} {g s : Nat} {vF vG v : Value} {at_ : Int} {cs : List Int} (h : Ck w0 g s vF vG at_ cs v w) (t : ByteArray) (n : Nat) (a : Int) (hcs : cs.length + 1 ≤ 250) (A : Option Addr) (c : Nat) (hC : Kd.C k51 w0 A ([] : List Nd).length []) (b : Bool) :
    Calls Tryz.prog 27 #[.pointer (some ⟨g, 0, none⟩), .agg #[.int .i64 4, .string t, .int .i64 n, .int .i64 a, .slice A 0 c], .bool b] w (CkRes w0 g s vF vG at_ (addN cs n) v w) := by
  have H := Lib.hid h
  have HL := Lib.hid hcs
  have HC := Lib.hid hC
  clear h hcs hC
  go_enter Tryz.func27, Tryz.ntmps27
  go_wp2_with fail
  obtain ⟨w1, hw1, hb1, hn1⟩ := box_node w 4 t n a (.slice A 0 c)
  rw [hw1]
  have B1 := Lib.hid hb1
  have N1 := Lib.hid hn1
  obtain ⟨n0, n1, n2, n3, n4⟩ := five_of hn1
  clear hw1 hb1 hn1
  go_wp2_with fail
  refine (constant_call (H.out.below B1.out) (by have := HL.out; omega) n 4 t n a A 0 c).mono ?_
  rintro r w3 ⟨rfl, v3, hK3, hA3⟩
  have K3 := Lib.hid (And.intro hK3 ((Adv.of_below B1.out).trans hA3))
  clear n0 n1 n2 n3 n4
  have hne : w.heap.size ≠ s := by have := blt H.out.bs; omega
  have hno : v.ownBlock ≠ some w.heap.size := fun e => by have := H.out.own e; omega
  have N3 := Lib.hid (hA3.blk N1.out hne hno)
  clear hK3 hA3 hne hno
  obtain ⟨n0, n1, n2, n3, n4⟩ := five_of N3.out
  go_wp2_with fail
  refine (nodes_call K3.out.1 [] [] rfl (by have := addN_len cs n; have := HL.out; simp; omega) A c (by simp) HC.out (fun j hj => absurd hj (by simp))).mono ?_
  rintro r w2 ⟨rfl, v2, hK2, hA2⟩
  have K2 := Lib.hid (And.intro hK2 (K3.out.2.trans hA2))
  clear hK2 hA2 n0 n1 n2 n3 n4
  go_wp2_with fail
  go_end0
  exact ⟨rfl, v2, K2.out.1, K2.out.2⟩
end Go.Proofs.YtaoippnipcchmaaGreatDoor.PT
/- TopCode: checker.node over the trees. -/
namespace Go.Proofs.YtaoippnipcchmaaGreatDoor.PT
open Go.RowKit Go.Proofs.YtaoippnipcchmaaGreatDoorW.PrintWords Go.Proofs.YtaoippnipcchmaaGreatDoorW.PrintLast Go.Proofs.YtaoippnipcchmaaGreatDoorW.PrintMore
open Go.Proofs.YtaoippnipcchmaaGreatDoor.TP
set_option linter.unusedVariables false
set_option linter.unusedSimpArgs false

/-- The scope's row of names is written as it was. -/
theorem Ck.names {w0 w : World} {g s : Nat} {vF vG v : Value} {at_ : Int} {cs : List Int} (h : Ck w0 g s vF vG at_ cs v w) (i : Nat) (hi : i = 5 ∨ i = 7) : Ck w0 g s vF vG at_ cs v (w.setCell ⟨s, i, none⟩ (.slice none 0 0)) ∧ Adv s v v w (w.setCell ⟨s, i, none⟩ (.slice none 0 0)) := by
  refine ⟨⟨blk_far h.bg h.gs.2.2 _, ?_, Kd.R_far h.row (fun k hk => hk.2) _, h.b0.setCell h.gs.2.1 _, h.gs⟩, ⟨by simp, fun k hk hks hv => Below.heap_setCell w ⟨s, i, none⟩ _ k hks, .inl rfl⟩⟩
  rcases hi with rfl | rfl
  · exact blk_put h.bs 5 _ rfl
  · exact blk_put h.bs 7 _ rfl
set_option maxHeartbeats 8000000 in
set_option maxRecDepth 100000 in
theorem node_exp {w0 w : World} {g s : Nat} {vF vG v : Value} {at_ : Int} {cs' : List Int} (k : Int) (hk : k = 4 ∨ k = 9 ∨ k = 10 ∨ k = 11 ∨ k = 30) (t : ByteArray) (n a : Int) (A : Option Addr) (m c : Nat)
    (hE : ∀ W, Below w.heap.size w W → Calls Tryz.prog 27 #[.pointer (some ⟨g, 0, none⟩), .agg #[.int .i64 k, .string t, .int .i64 n, .int .i64 a, .slice A m c], .bool false] W (CkRes w0 g s vF vG at_ cs' v W)) :
    Calls Tryz.prog 14 #[.pointer (some ⟨g, 0, none⟩), .agg #[.int .i64 k, .string t, .int .i64 n, .int .i64 a, .slice A m c], .bool false] w (CkRes w0 g s vF vG at_ cs' v w) := by
  have HQ := Lib.hid hE
  clear hE
  rcases hk with rfl | rfl | rfl | rfl | rfl
  all_goals
    go_enter Tryz.func14, Tryz.ntmps14
    go_wp2_with fail
    obtain ⟨w1, hw1, hb1, hn1⟩ := box_node w _ t n a (.slice A m c)
    rw [hw1]
    have B1 := Lib.hid hb1
    obtain ⟨n0, n1, n2, n3, n4⟩ := five_of hn1
    clear hw1 hb1 hn1
    go_wp2_with fail
    refine (HQ.out _ (B1.out)).mono ?_
    rintro r w2 ⟨rfl, v2, hK2, hA2⟩
    have K2 := Lib.hid (And.intro hK2 ((Adv.of_below B1.out).trans hA2))
    clear hK2 hA2 n0 n1 n2 n3 n4
    go_wp2_with fail
    go_end0
    exact ⟨rfl, v2, K2.out.1, K2.out.2⟩
set_option maxHeartbeats 8000000 in
set_option maxRecDepth 100000 in
theorem node_block {w0 w : World} {g s : Nat} {vF vG v : Value} {at_ : Int} {cs cs' : List Int} (h : Ck w0 g s vF vG at_ cs v w) (t : ByteArray) (n a : Int) (A : Option Addr) (m c : Nat)
    (hE : ∀ W, Below w.heap.size w W → Calls Tryz.prog 22 #[.pointer (some ⟨g, 0, none⟩), .slice A m c] W (CkRes w0 g s vF vG at_ cs' v W)) :
    Calls Tryz.prog 14 #[.pointer (some ⟨g, 0, none⟩), .agg #[.int .i64 20, .string t, .int .i64 n, .int .i64 a, .slice A m c], .bool false] w (CkRes w0 g s vF vG at_ cs' v w) := by
  have HQ := Lib.hid hE
  have H := Lib.hid h
  clear hE h
  obtain ⟨w1, hw1, hb1, hn1⟩ := box_node w 20 t n a (.slice A m c)
  have B1 := Lib.hid hb1
  have N1 := Lib.hid hn1
  have K1 := Lib.hid (H.out.below B1.out)
  clear hb1 hn1
  obtain ⟨n0, n1, n2, n3, n4⟩ := five_of N1.out
  obtain ⟨g0, g1, g2⟩ := three_of K1.out.bg
  obtain ⟨s0, s1, s2, s3, s4, s5, s6, s7⟩ := eight_of K1.out.bs
  go_enter Tryz.func14, Tryz.ntmps14
  go_wp2_with fail
  refine (HQ.out _ (B1.out)).mono ?_
  rintro r w2 ⟨rfl, v2, hK2, hA2⟩
  have K2 := Lib.hid (And.intro hK2 ((Adv.of_below B1.out).trans hA2))
  clear hK2 hA2 n0 n1 n2 n3 n4 g0 g1 g2 s0 s1 s2 s3 s4 s5 s6 s7
  obtain ⟨g0, g1, g2⟩ := three_of K2.out.1.bg
  obtain ⟨s0, s1, s2, s3, s4, s5, s6, s7⟩ := eight_of K2.out.1.bs
  have sf5 := blk_frozen K2.out.1.bs 5
  have sf7 := blk_frozen K2.out.1.bs 7
  go_wp2_with fail
  go_still_tail 15, (by kernel_rfl)
  change wpList _ _ _ _ _ w2.drew
  go_wp2_with fail
  go_end0
  have hB := (below_drew1 (Below.refl w2.heap.size w2))
  have hQ := (K2.out.1.below hB).names 5 (.inl rfl)
  exact ⟨rfl, v2, hQ.1, (K2.out.2.trans (Adv.of_below hB)).trans hQ.2⟩
/-- The numbers of a tree. -/
def numsT : Tr → List Nat
  | .leaf n => [n]
  | .one _ _ x => numsT x
  | .two _ x y => numsT x ++ numsT y
def okT : Tr → Prop
  | .leaf _ => True
  | .one k _ x => (k = 9 ∨ k = 10 ∨ k = 20 ∨ k = 30) ∧ okT x
  | .two _ x y => okT x ∧ okT y
theorem nums_tree (e : Ex) : numsT (treeOf e) = e.nums ∧ okT (treeOf e) := by
  induction e with
  | num n => exact ⟨rfl, trivial⟩
  | op o a b iha ihb => exact ⟨by simp [treeOf, numsT, Ex.nums, iha.1, ihb.1], .inl rfl, iha.2, ihb.2⟩
  | neg a ih => exact ⟨by simp [treeOf, numsT, Ex.nums, ih.1], .inl rfl, .inr (.inl rfl), ih.2⟩
theorem rd_one (z : Nd) : rd_T51 [z] ((0 : Nat) : Int) = z := rfl
theorem node_tr {w0 : World} {g s : Nat} {vF vG : Value} {at_ : Int} (t : Tr) : ∀ x : Nd, Sh t x → okT t → NodeC w0 g s vF vG at_ x (numsT t) := by
  induction t with
  | leaf n =>
    rintro ⟨x0, x1, x2, x3, x4⟩ ⟨h0, h1, h2, h4⟩ _ w cs v A c hl hk hc hC
    simp only at h0 h1 h2 h4 hC ⊢
    subst h0 h2 h4
    exact node_exp 4 (.inl rfl) _ _ _ A 0 c (fun W hW => exp_leaf (hk.below hW) _ n _ (by simpa [numsT] using hl) A c hC false)
  | one k t y ih =>
    rintro ⟨x0, x1, x2, x3, x4⟩ ⟨h0, h1, h2, z, h4, hz⟩ ⟨hkk, hok⟩ w cs v A c hl hk hc hC
    simp only at h0 h1 h2 h4 hC hc ⊢
    subst h0 h2 h4
    have hN : ∀ j, j < [z].length → NodeC w0 g s vF vG at_ (rd_T51 [z] (j : Int)) ([numsT y].getD j []) := by
      intro j hj
      obtain rfl : j = 0 := by simp at hj; omega
      exact ih z hz hok
    have hf : [numsT y].flatten = numsT (.one x0 t y) := by simp [numsT]
    have hl' : cs.length + [numsT y].flatten.length ≤ 250 := by rw [hf]; exact hl
    rw [← hf]
    rcases hkk with rfl | rfl | rfl | rfl
    · exact node_exp 9 (by simp) _ _ _ A _ c (fun W hW => exp_other (hk.below hW) 9 (by simp) _ _ _ [z] [numsT y] rfl hl' A c hc hC hN false)
    · exact node_exp 10 (by simp) _ _ _ A _ c (fun W hW => exp_other (hk.below hW) 10 (by simp) _ _ _ [z] [numsT y] rfl hl' A c hc hC hN false)
    · exact node_block hk _ _ _ A _ c (fun W hW => nodes_call (hk.below hW) [z] [numsT y] rfl hl' A c hc hC hN)
    · exact node_exp 30 (by simp) _ _ _ A _ c (fun W hW => exp_ret (hk.below hW) _ _ _ [z] (by simp) [numsT y] rfl hl' A c hc hC hN false)
  | two t a b iha ihb =>
    rintro ⟨x0, x1, x2, x3, x4⟩ ⟨h0, h1, h2, y, z, h4, hy, hz⟩ ⟨hoa, hob⟩ w cs v A c hl hk hc hC
    simp only at h0 h1 h2 h4 hC hc ⊢
    subst h0 h2 h4
    have hN : ∀ j, j < [y, z].length → NodeC w0 g s vF vG at_ (rd_T51 [y, z] (j : Int)) ([numsT a, numsT b].getD j []) := by
      intro j hj
      rcases (by simp at hj; omega : j = 0 ∨ j = 1) with rfl | rfl
      · exact iha y hy hoa
      · exact ihb z hz hob
    have hf : [numsT a, numsT b].flatten = numsT (.two t a b) := by simp [numsT]
    have hl' : cs.length + [numsT a, numsT b].flatten.length ≤ 250 := by rw [hf]; exact hl
    rw [← hf]
    exact node_exp 11 (by simp) _ _ _ A _ c (fun W hW => exp_other (hk.below hW) 11 (by simp) _ _ _ [y, z] [numsT a, numsT b] rfl hl' A c hc hC hN false)
end Go.Proofs.YtaoippnipcchmaaGreatDoor.PT
/- TopCode: the height of a tree. -/
namespace Go.Proofs.YtaoippnipcchmaaGreatDoor.PT
open Go.RowKit Go.Proofs.YtaoippnipcchmaaGreatDoorW.PrintWords Go.Proofs.YtaoippnipcchmaaGreatDoorW.PrintLast Go.Proofs.YtaoippnipcchmaaGreatDoorW.PrintMore
open Go.Proofs.YtaoippnipcchmaaGreatDoor.TP
set_option linter.unusedVariables false
set_option linter.unusedSimpArgs false

def highT : Tr → Nat
  | .leaf _ => 1
  | .one _ _ x => highT x + 1
  | .two _ x y => max (highT x) (highT y) + 1
theorem high_tree (e : Ex) : highT (treeOf e) ≤ 2 * e.high + 1 := by
  induction e with
  | num n => exact Nat.le_refl _
  | op o a b iha ihb => simp only [treeOf, highT, Ex.high]; omega
  | neg a ih => simp only [treeOf, highT, Ex.high]; omega
theorem high_pos (t : Tr) : 0 < highT t := by cases t <;> simp [highT]
theorem wrap_succ (n : Nat) (h : n ≤ 1000) : wrap64 ((n : Int) + 1) = ((n + 1 : Nat) : Int) := by
  have := IntWalk.wrap64_in ((n : Int) + 1) (by omega)
  exact this.trans (by omega)
theorem mx_nat (a b : Nat) : mx (a : Int) (b : Int) = ((max a b : Nat) : Int) := by
  unfold mx
  split <;> omega
theorem fS (k : Nat) (a0 : Int) (a1 : ByteArray) (a2 a3 : Int) (l : List Nd) : parse_Height.f (k + 1) a0 a1 a2 a3 l = parse_Height.l0 k 0 l (l.length : Int) 0 := by simp only [parse_Height.f]
theorem lS (k : Nat) (m : Int) (l : List Nd) (i : Int) (h0 : 0 ≤ i) (h : i < (l.length : Int)) (r : Int) (hf : parse_Height.f k (rd_T51 l i).f0 (rd_T51 l i).f1 (rd_T51 l i).f2 (rd_T51 l i).f3 (rd_T51 l i).f4 = some r) : parse_Height.l0 (k + 1) m l (l.length : Int) i = parse_Height.l0 k (mx m r) l (l.length : Int) (wrap64 (i + 1)) := by
  simp only [parse_Height.l0, if_pos h, if_pos h0, hf, Option.bind_some]
theorem lE (k : Nat) (m : Int) (l : List Nd) (n i : Int) (h : ¬ i < n) : parse_Height.l0 (k + 1) m l n i = some (wrap64 (m + 1)) := by simp only [parse_Height.l0, if_neg h]
theorem height_tr (t : Tr) : ∀ x : Nd, Sh t x → highT t ≤ 1000 → ∃ k0, ∀ k, k0 ≤ k → parse_Height.f k x.f0 x.f1 x.f2 x.f3 x.f4 = some (highT t : Int) := by
  induction t with
  | leaf n =>
    intro x h hl
    refine ⟨2, fun k hk => ?_⟩
    obtain ⟨k, rfl⟩ : ∃ j, k = j + 2 := ⟨k - 2, by omega⟩
    rw [h.2.2.2]
    have e0 : wrap64 ((0 : Int) + 1) = 1 := wrap_succ 0 (by omega)
    rw [fS, lE _ _ _ _ _ (by simp), e0]
    rfl
  | one kd t y ih =>
    intro x h hl
    obtain ⟨z, h4, hz⟩ := h.2.2.2
    simp only [highT] at hl ⊢
    obtain ⟨k0, hk0⟩ := ih z hz (by omega)
    refine ⟨k0 + 3, fun k hk => ?_⟩
    obtain ⟨k, rfl⟩ : ∃ j, k = j + 3 := ⟨k - 3, by omega⟩
    rw [h4]
    have e0 : wrap64 ((0 : Int) + 1) = 1 := wrap_succ 0 (by omega)
    have hr : rd_T51 [z] 0 = z := rfl
    have hm : mx 0 (highT y : Int) = (highT y : Int) := by have := mx_nat 0 (highT y); rw [Nat.zero_max] at this; exact this
    rw [fS, lS _ _ _ _ (by omega) (by simp) (highT y : Int) (by rw [hr]; exact hk0 _ (by omega)), e0, lE _ _ _ _ _ (by simp), hm, wrap_succ (highT y) (by omega)]
  | two t a b iha ihb =>
    intro x h hl
    obtain ⟨y, z, h4, hy, hz⟩ := h.2.2.2
    simp only [highT] at hl ⊢
    obtain ⟨k0, hk0⟩ := iha y hy (by omega)
    obtain ⟨k1, hk1⟩ := ihb z hz (by omega)
    refine ⟨k0 + k1 + 4, fun k hk => ?_⟩
    obtain ⟨k, rfl⟩ : ∃ j, k = j + 4 := ⟨k - 4, by omega⟩
    rw [h4]
    have e0 : wrap64 ((0 : Int) + 1) = 1 := wrap_succ 0 (by omega)
    have e1 : wrap64 ((1 : Int) + 1) = 2 := wrap_succ 1 (by omega)
    have hr : rd_T51 [y, z] 0 = y := rfl
    have hr1 : rd_T51 [y, z] 1 = z := rfl
    have hm : mx 0 (highT a : Int) = (highT a : Int) := by have := mx_nat 0 (highT a); rw [Nat.zero_max] at this; exact this
    rw [fS, lS _ _ _ _ (by omega) (by simp) (highT a : Int) (by rw [hr]; exact hk0 _ (by omega)), e0, lS _ _ _ _ (by omega) (by simp) (highT b : Int) (by rw [hr1]; exact hk1 _ (by omega)), e1, lE _ _ _ _ _ (by simp), hm, mx_nat, wrap_succ (max (highT a) (highT b)) (by omega)]
theorem height_root {e : Ex} {x : Nd} (h : Sh (rootOf e) x) (he : e.high ≤ 40) : ∃ k r, parse_Height.f k x.f0 x.f1 x.f2 x.f3 x.f4 = some r ∧ r ≤ 100 := by
  have hh : highT (rootOf e) ≤ 2 * e.high + 3 := by have := high_tree e; simp only [rootOf, highT]; omega
  obtain ⟨k0, hk⟩ := height_tr (rootOf e) x h (by omega)
  exact ⟨k0, _, hk k0 (Nat.le_refl _), by omega⟩
end Go.Proofs.YtaoippnipcchmaaGreatDoor.PT
/- TopCode: Check. -/
namespace Go.Proofs.YtaoippnipcchmaaGreatDoor.PT
open Go.RowKit Go.Proofs.YtaoippnipcchmaaGreatDoorW.PrintWords Go.Proofs.YtaoippnipcchmaaGreatDoorW.PrintLast Go.Proofs.YtaoippnipcchmaaGreatDoorW.PrintMore
open Go.Proofs.YtaoippnipcchmaaGreatDoor.TP
set_option linter.unusedVariables false
set_option linter.unusedSimpArgs false

/-- What Check tells: one function, its constants. -/
def RepOk (w : World) (B : Nat) (cs : List Int) (v : Value) : Prop := ∃ b at_ A c, v = .agg #[.slice (some ⟨b, 0, none⟩) 1 1, .slice none 0 0] ∧ B ≤ b ∧ w.heap[b]? = some (.cells #[.string ⟨#[]⟩, .int .i64 at_, .int .i64 0, .int .i64 0, .slice A cs.length c] 55 (0, 0)) ∧ RV w B (fun _ => True) (.slice A cs.length c) (valsOf cs)
set_option maxHeartbeats 8000000 in
set_option maxRecDepth 100000 in
theorem check_call (e : Ex) (hok : e.ok) (hops : e.ops + 1 ≤ 250) (hhi : e.high ≤ 40) (src : ByteArray) (w : World) (hsc : ∀ W, Below w.heap.size w W → Calls Tryz.prog 15 #[.string src] W (ScanRes e W)) :
    Calls Tryz.prog 8 #[.string src] w fun r w' => ∃ v, r = .returned (.tuple #[v, .agg #[.int .i64 0, .int .i64 0]]) ∧ RepOk w' w.heap.size (e.cons []) v ∧ Below w.heap.size w w' := by
  have hmf : ∀ (fn : Fn) (first cap : Array Value) (w : World), (Instr.makeFunc fn first cap).run Tryz.prog w = .ok (.func fn first cap) w := fun _ _ _ _ => rfl
  have HP := Lib.hid (fun (W : World) (hW : Below w.heap.size w W) => parse_at e hok src W (fun V hV => hsc V (hW.trans (hV.mono hW.size))))
  have HO := Lib.hid (And.intro hops hhi)
  clear hsc hok hops hhi
  go_enter_defers Tryz.func8, Tryz.ntmps8
  go_wp2_with fail
  obtain ⟨w1, hw1, hb1, hr1, hf1, hs1⟩ : ∃ w1, (w.alloc (.cells #[.slice none 0 0, .slice none 0 0] 46)).alloc (.cells #[.int .i64 0, .int .i64 0] 31) = w1 ∧ Below w.heap.size w w1 ∧ w1.heap[w.heap.size]? = some (.cells #[.slice none 0 0, .slice none 0 0] 46 (0, 0)) ∧ w1.heap[w.heap.size + 1]? = some (.cells #[.int .i64 0, .int .i64 0] 31 (0, 0)) ∧ w1.heap.size = w.heap.size + 2 :=
    ⟨_, rfl, ((Below.refl _ _).alloc (Nat.le_refl _) _).alloc (by simp) _, (Below.heap_alloc _ _ _ (by simp)).trans (heap_alloc_new _ _), by have := heap_alloc_new (w.alloc (.cells #[.slice none 0 0, .slice none 0 0] 46)) (.cells #[.int .i64 0, .int .i64 0] 31); simpa using this, by simp⟩
  rw [hw1]
  refine (HP.out w1 hb1).mono ?_
  rintro r w2 ⟨x, v, rfl, ⟨A, cx, rfl, hR⟩, hS, hb2⟩
  have R2 := Lib.hid (Bel.blk hb2 hr1)
  have F2 := Lib.hid (Bel.blk hb2 hf1)
  have B2 := Lib.hid (hb1.trans (hb2.mono hb1.size))
  have T2 := Lib.hid (And.intro (Kd.R_lower hR (show w.heap.size + 2 ≤ w1.heap.size by omega)) hS)
  clear hw1 hb1 hr1 hf1 hs1 hb2 hR hS
  have fa := Lib.hid (blk_alloc F2.out (.cells #[.int .i64 x.f0, .string x.f1, .int .i64 x.f2, .int .i64 x.f3, .slice A x.f4.length cx] 51))
  obtain ⟨f0, f1, z0, z1⟩ := two_of F2.out
  obtain ⟨q0, q1, y0, y1⟩ := two_of fa.out
  have hne : w2.heap.size ≠ w.heap.size + 1 := by (have := blt F2.out; omega)
  have hnf : w.heap.size + 1 ≠ w2.heap.size := Ne.symm hne
  go_wp2_with fail
  obtain ⟨w3, hw3, hN3, hF3, hR3, hB3, hT3⟩ : ∃ w3, ((w2.alloc (.cells #[.int .i64 x.f0, .string x.f1, .int .i64 x.f2, .int .i64 x.f3, .slice A x.f4.length cx] 51)).setCell ⟨w.heap.size + 1, 0, none⟩ (.int .i64 0)).setCell ⟨w.heap.size + 1, 1, none⟩ (.int .i64 0) = w3 ∧ w3.heap[w2.heap.size]? = some (.cells #[.int .i64 x.f0, .string x.f1, .int .i64 x.f2, .int .i64 x.f3, .slice A x.f4.length cx] 51 (0, 0)) ∧ w3.heap[w.heap.size + 1]? = some (.cells #[.int .i64 0, .int .i64 0] 31 (0, 0)) ∧ w3.heap[w.heap.size]? = some (.cells #[.slice none 0 0, .slice none 0 0] 46 (0, 0)) ∧ Below w.heap.size w w3 ∧ RK w3 (w.heap.size + 2) (fun _ => True) (.slice A x.f4.length cx) x.f4 := by
    obtain ⟨W, hW⟩ : ∃ W, w2.alloc (.cells #[.int .i64 x.f0, .string x.f1, .int .i64 x.f2, .int .i64 x.f3, .slice A x.f4.length cx] 51) = W := ⟨_, rfl⟩
    have hal := heap_alloc_new w2 (.cells #[.int .i64 x.f0, .string x.f1, .int .i64 x.f2, .int .i64 x.f3, .slice A x.f4.length cx] 51)
    have hbl := below_alloc (Below.refl w2.heap.size w2) (.cells #[.int .i64 x.f0, .string x.f1, .int .i64 x.f2, .int .i64 x.f3, .slice A x.f4.length cx] 51)
    rw [hW] at hal hbl
    rw [hW]
    have hFr : Fr (fun k => k = w.heap.size + 1) W ((W.setCell ⟨w.heap.size + 1, 0, none⟩ (.int .i64 0)).setCell ⟨w.heap.size + 1, 1, none⟩ (.int .i64 0)) := (Fr.set (c := fun k => k = w.heap.size + 1) (p := ⟨w.heap.size + 1, 0, none⟩) rfl _).trans (Fr.set (c := fun k => k = w.heap.size + 1) (p := ⟨w.heap.size + 1, 1, none⟩) rfl _)
    refine ⟨_, rfl, hFr.blk hal hne, blk_put (cs := #[.int .i64 0, .int .i64 0]) (blk_put (cs := #[.int .i64 0, .int .i64 0]) (Bel.blk hbl F2.out) 0 _ rfl) 1 _ rfl, hFr.blk (Bel.blk hbl R2.out) (by omega), (B2.out.trans (hbl.mono B2.out.size)).trans (hFr.below (Nat.le_trans B2.out.size hbl.size) (fun k hk => by omega)), RK.fr (Kd.R_below T2.out.1 hbl) hFr (fun k hk => .inl (by omega))⟩
  rw [hw3]
  have N3 := Lib.hid hN3
  have F3 := Lib.hid hF3
  have R3 := Lib.hid hR3
  have B3 := Lib.hid hB3
  have T3 := Lib.hid (And.intro hT3 T2.out.2)
  clear hw3 hN3 hF3 hR3 hB3 hT3 f0 f1 z0 z1 q0 q1 y0 y1 fa R2 F2 B2 T2
  obtain ⟨k, r, hk, hr⟩ := height_root T3.out.2 HO.out.2
  have hRR := Kd.R_reads' T3.out.1
  refine (parse_Height.calls k x.f0 x.f1 x.f2 x.f3 A cx x.f4 r w3 hRR.2.2 hRR.2.1 hk).mono ?_
  rintro r_ w4 ⟨rfl, hb4⟩
  have c100 : decide (100 < r) = false := decide_eq_false (by omega)
  have c101 : decide (r > 100) = false := decide_eq_false (by omega)
  have N4 := Lib.hid (Bel.blk hb4 N3.out)
  have F4 := Lib.hid (Bel.blk hb4 F3.out)
  have R4 := Lib.hid (Bel.blk hb4 R3.out)
  have B4 := Lib.hid (B3.out.trans (hb4.mono B3.out.size))
  have T4 := Lib.hid (And.intro (Kd.R_below T3.out.1 hb4) T3.out.2)
  have HRF := Lib.hid (blt F4.out)
  clear hb4 hk hr hRR N3 F3 R3 B3 T3
  have M4 := Lib.hid (blk_alloc (blk_alloc (blk_alloc N4.out (.cells #[.string (⟨#[]⟩ : ByteArray), .int .i64 x.f3, .int .i64 0, .int .i64 0, .slice none 0 0, .slice none 0 0, .int .i64 0, .slice none 0 0] 75)) (.cells #[.slice (some ⟨w4.heap.size + 1 + 1, 0, none⟩) 1 1, .slice none 0 0, .pointer (some ⟨w4.heap.size, 0, none⟩)] 77)) (.cells #[.string (⟨#[]⟩ : ByteArray), .int .i64 0, .int .i64 0, .int .i64 0, .slice none 0 0] 55))
  obtain ⟨n0, n1, n2, n3, n4⟩ := five_of N4.out
  obtain ⟨p0, p1, p2, p3, p4⟩ := five_of M4.out
  go_wp2_with fail
  obtain ⟨w5, hw5, hK5, hU5⟩ : ∃ w5, ((w4.alloc (.cells #[.string (⟨#[]⟩ : ByteArray), .int .i64 x.f3, .int .i64 0, .int .i64 0, .slice none 0 0, .slice none 0 0, .int .i64 0, .slice none 0 0] 75)).alloc (.cells #[.slice (some ⟨w4.heap.size + 1 + 1, 0, none⟩) 1 1, .slice none 0 0, .pointer (some ⟨w4.heap.size, 0, none⟩)] 77)).alloc (.cells #[.string (⟨#[]⟩ : ByteArray), .int .i64 0, .int .i64 0, .int .i64 0, .slice none 0 0] 55) = w5 ∧ Ck w4 (w4.heap.size + 1) w4.heap.size (.slice (some ⟨w4.heap.size + 1 + 1, 0, none⟩) 1 1) (.slice none 0 0) x.f3 [] (.slice none 0 0) w5 ∧ w5.heap[w4.heap.size + 1 + 1]? = some (.cells #[.string (⟨#[]⟩ : ByteArray), .int .i64 0, .int .i64 0, .int .i64 0, .slice none 0 0] 55 (0, 0)) := by
    have h1 := heap_alloc_new w4 (.cells #[.string (⟨#[]⟩ : ByteArray), .int .i64 x.f3, .int .i64 0, .int .i64 0, .slice none 0 0, .slice none 0 0, .int .i64 0, .slice none 0 0] 75)
    have h2 := heap_alloc_new (w4.alloc (.cells #[.string (⟨#[]⟩ : ByteArray), .int .i64 x.f3, .int .i64 0, .int .i64 0, .slice none 0 0, .slice none 0 0, .int .i64 0, .slice none 0 0] 75)) (.cells #[.slice (some ⟨w4.heap.size + 1 + 1, 0, none⟩) 1 1, .slice none 0 0, .pointer (some ⟨w4.heap.size, 0, none⟩)] 77)
    have h3 := heap_alloc_new ((w4.alloc (.cells #[.string (⟨#[]⟩ : ByteArray), .int .i64 x.f3, .int .i64 0, .int .i64 0, .slice none 0 0, .slice none 0 0, .int .i64 0, .slice none 0 0] 75)).alloc (.cells #[.slice (some ⟨w4.heap.size + 1 + 1, 0, none⟩) 1 1, .slice none 0 0, .pointer (some ⟨w4.heap.size, 0, none⟩)] 77)) (.cells #[.string (⟨#[]⟩ : ByteArray), .int .i64 0, .int .i64 0, .int .i64 0, .slice none 0 0] 55)
    have e1 : (w4.alloc (.cells #[.string (⟨#[]⟩ : ByteArray), .int .i64 x.f3, .int .i64 0, .int .i64 0, .slice none 0 0, .slice none 0 0, .int .i64 0, .slice none 0 0] 75)).heap.size = w4.heap.size + 1 := by simp
    have e2 : ((w4.alloc (.cells #[.string (⟨#[]⟩ : ByteArray), .int .i64 x.f3, .int .i64 0, .int .i64 0, .slice none 0 0, .slice none 0 0, .int .i64 0, .slice none 0 0] 75)).alloc (.cells #[.slice (some ⟨w4.heap.size + 1 + 1, 0, none⟩) 1 1, .slice none 0 0, .pointer (some ⟨w4.heap.size, 0, none⟩)] 77)).heap.size = w4.heap.size + 2 := by simp
    rw [e1] at h2
    rw [e2] at h3
    have hb := ((below_alloc (Below.refl w4.heap.size w4) (.cells #[.string (⟨#[]⟩ : ByteArray), .int .i64 x.f3, .int .i64 0, .int .i64 0, .slice none 0 0, .slice none 0 0, .int .i64 0, .slice none 0 0] 75)).alloc (by rw [e1]; omega) (.cells #[.slice (some ⟨w4.heap.size + 1 + 1, 0, none⟩) 1 1, .slice none 0 0, .pointer (some ⟨w4.heap.size, 0, none⟩)] 77)).alloc (by rw [e2]; omega) (.cells #[.string (⟨#[]⟩ : ByteArray), .int .i64 0, .int .i64 0, .int .i64 0, .slice none 0 0] 55)
    exact ⟨_, rfl, ⟨blk_alloc h2 _, blk_alloc (blk_alloc h1 _) _, Kd.R_nil _ _ _ _ _, hb, ⟨by omega, by omega, by omega⟩⟩, h3⟩
  rw [hw5]
  have hN5 := node_tr (w0 := w4) (g := w4.heap.size + 1) (s := w4.heap.size) (vF := .slice (some ⟨w4.heap.size + 1 + 1, 0, none⟩) 1 1) (vG := .slice none 0 0) (at_ := x.f3) (rootOf e) x T4.out.2 (by have := nums_tree e; exact ⟨by simp, by simp, this.2⟩)
  have hRR := Kd.R_reads' T4.out.1
  have hnl : numsT (rootOf e) = e.nums := (nums_tree e).1
  refine (hN5 w5 [] (.slice none 0 0) A cx (by rw [hnl]; have := nums_len e; have := HO.out.1; simp; omega) hK5 hRR.2.1 hRR.2.2).mono ?_
  rintro r6 w6 ⟨rfl, v6, hK6, hA6⟩
  rw [hnl] at hK6
  obtain ⟨cs, hcs⟩ : ∃ cs, e.nums.foldl addN [] = cs := ⟨_, rfl⟩
  rw [hcs] at hK6
  have HCS := Lib.hid hcs
  clear hcs
  obtain ⟨A6, c6, rfl, hc6, hC6⟩ := hK6.slice
  obtain ⟨n6, hn6⟩ : ∃ n, cs.length = n := ⟨_, rfl⟩
  rw [hn6] at hK6 hc6 hC6 hA6
  have HN6 := Lib.hid hn6
  have hb6 := hK6.b0
  have K6 := Lib.hid hK6
  have U6 := Lib.hid (hA6.blk hU5 (by omega) (by simp [Value.ownBlock]))
  have N6 := Lib.hid (Bel.blk hb6 N4.out)
  have F6 := Lib.hid (Bel.blk hb6 F4.out)
  have R6 := Lib.hid (Bel.blk hb6 R4.out)
  have B6 := Lib.hid (B4.out.trans (hb6.mono B4.out.size))
  clear hw5 hK5 hU5 hN5 hRR hK6 hA6 hb6 n0 n1 n2 n3 n4 p0 p1 p2 p3 p4 N4 F4 R4 B4 M4 hn6 hc6 hC6
  obtain ⟨g0, g1, g2⟩ := three_of K6.out.bg
  obtain ⟨s0, s1, s2, s3, s4, s5, s6, s7⟩ := eight_of K6.out.bs
  go_wp2_with fail
  go_still_tail 13, (by kernel_rfl)
  change wpList _ _ _ _ _ w6.drew
  clear g0 g1 g2 s0 s1 s2 s3 s4 s5 s6 s7
  obtain ⟨u0, u1, u2, u3, u4⟩ := five_of U6.out
  have y0 := blk_frozen U6.out 0
  have y1 := blk_frozen U6.out 1
  have y2 := blk_frozen U6.out 2
  have y3 := blk_frozen U6.out 3
  have y4 := blk_frozen U6.out 4
  go_upto_region 11 with (fail)
  obtain ⟨w7, hw7, hU7, hb7, hF7⟩ : ∃ w7, ((((w6.setCell ⟨w4.heap.size + 1 + 1, 0, none⟩ (.string ⟨#[]⟩)).setCell ⟨w4.heap.size + 1 + 1, 1, none⟩ (.int .i64 x.f3)).setCell ⟨w4.heap.size + 1 + 1, 2, none⟩ (.int .i64 0)).setCell ⟨w4.heap.size + 1 + 1, 3, none⟩ (.int .i64 0)).setCell ⟨w4.heap.size + 1 + 1, 4, none⟩ (.slice A6 n6 c6) = w7 ∧ w7.heap[w4.heap.size + 1 + 1]? = some (.cells #[.string ⟨#[]⟩, .int .i64 x.f3, .int .i64 0, .int .i64 0, .slice A6 n6 c6] 55 (0, 0)) ∧ Below w4.heap.size w6 w7 ∧ Fr (fun k => k = w4.heap.size + 1 + 1) w6 w7 :=
    ⟨_, rfl, five_set _ _ _ _ _ U6.out, (five_fr _ _ _ _ _).below (by have := K6.out.b0.size; omega) (fun k hk => by omega), five_fr _ _ _ _ _⟩
  rw [hw7]
  have hR4 := Kd.R_types K6.out.row U6.out (by decide)
  have K7 := Lib.hid (Kd.R_step hR4 (fun k hk hlt => hF7.block k hlt (fun e => hk.2 e)))
  have hRl : w.heap.size + 1 < w4.heap.size := by have := HRF.out; omega
  have N7 := Lib.hid (hF7.blk R6.out (by omega))
  have F7 := Lib.hid (hF7.blk F6.out (by omega))
  have B7 := Lib.hid (B6.out.trans (hb7.mono (by omega)))
  obtain ⟨g0, g1, g2⟩ := three_of (hF7.blk K6.out.bg (by omega))
  obtain ⟨q0, q1, y5, y6⟩ := two_of N7.out
  obtain ⟨f0, f1, z0, z1⟩ := two_of F7.out
  have U7 := Lib.hid hU7
  clear hw7 hU7 hF7 hb7 hR4 u0 u1 u2 u3 u4 y0 y1 y2 y3 y4
  go_wp2_with fail
  obtain ⟨w8, hw8, hR8, hF8, hF7, hB8⟩ : ∃ w8, ((((w7.setCell ⟨w.heap.size, 0, none⟩ (.slice (some ⟨w4.heap.size + 1 + 1, 0, none⟩) 1 1)).setCell ⟨w.heap.size, 1, none⟩ (.slice none 0 0)).setCell ⟨w.heap.size + 1, 0, none⟩ (.int .i64 0)).setCell ⟨w.heap.size + 1, 1, none⟩ (.int .i64 0)).drew = w8 ∧ w8.heap[w.heap.size]? = some (.cells #[.slice (some ⟨w4.heap.size + 1 + 1, 0, none⟩) 1 1, .slice none 0 0] 46 (0, 0)) ∧ w8.heap[w.heap.size + 1]? = some (.cells #[.int .i64 0, .int .i64 0] 31 (0, 0)) ∧ Fr (fun k => k = w.heap.size ∨ k = w.heap.size + 1) w7 w8 ∧ Below w.heap.size w w8 := by
    have h1 := blk_put (cs := #[.slice (some ⟨w4.heap.size + 1 + 1, 0, none⟩) 1 1, .slice none 0 0]) (blk_put (cs := #[.slice none 0 0, .slice none 0 0]) N7.out 0 (.slice (some ⟨w4.heap.size + 1 + 1, 0, none⟩) 1 1) rfl) 1 (.slice none 0 0) rfl
    have hFr : Fr (fun k => k = w.heap.size ∨ k = w.heap.size + 1) w7 (((w7.setCell ⟨w.heap.size, 0, none⟩ (.slice (some ⟨w4.heap.size + 1 + 1, 0, none⟩) 1 1)).setCell ⟨w.heap.size, 1, none⟩ (.slice none 0 0))) := (Fr.set (c := fun k => k = w.heap.size ∨ k = w.heap.size + 1) (p := ⟨w.heap.size, 0, none⟩) (.inl rfl) _).trans (Fr.set (c := fun k => k = w.heap.size ∨ k = w.heap.size + 1) (p := ⟨w.heap.size, 1, none⟩) (.inl rfl) _)
    obtain ⟨W, hW⟩ : ∃ W, (w7.setCell ⟨w.heap.size, 0, none⟩ (.slice (some ⟨w4.heap.size + 1 + 1, 0, none⟩) 1 1)).setCell ⟨w.heap.size, 1, none⟩ (.slice none 0 0) = W := ⟨_, rfl⟩
    rw [hW] at h1 hFr
    rw [hW]
    have hFW : W.heap[w.heap.size + 1]? = some (.cells #[.int .i64 0, .int .i64 0] 31 (0, 0)) := by
      rw [← hW]
      exact blk_far (blk_far F7.out (by show w.heap.size + 1 ≠ w.heap.size; omega) _) (by show w.heap.size + 1 ≠ w.heap.size; omega) _
    have hF2 : Fr (fun k => k = w.heap.size ∨ k = w.heap.size + 1) W ((W.setCell ⟨w.heap.size + 1, 0, none⟩ (.int .i64 0)).setCell ⟨w.heap.size + 1, 1, none⟩ (.int .i64 0)) := (Fr.set (c := fun k => k = w.heap.size ∨ k = w.heap.size + 1) (p := ⟨w.heap.size + 1, 0, none⟩) (.inr rfl) _).trans (Fr.set (c := fun k => k = w.heap.size ∨ k = w.heap.size + 1) (p := ⟨w.heap.size + 1, 1, none⟩) (.inr rfl) _)
    have h2 := blk_put (cs := #[.int .i64 0, .int .i64 0]) (blk_put (cs := #[.int .i64 0, .int .i64 0]) hFW 0 (.int .i64 0) rfl) 1 (.int .i64 0) rfl
    have h1' := blk_far (p := ⟨w.heap.size + 1, 1, none⟩) (blk_far (p := ⟨w.heap.size + 1, 0, none⟩) h1 (by show w.heap.size ≠ w.heap.size + 1; omega) (.int .i64 0)) (by show w.heap.size ≠ w.heap.size + 1; omega) (.int .i64 0)
    have hF3 := (hFr.trans hF2).trans (Fr.of_below (c := fun k => k = w.heap.size ∨ k = w.heap.size + 1) (below_drew1 (Below.refl _ _)))
    exact ⟨_, rfl, blk_drew h1', blk_drew h2, hF3, B7.out.trans (hF3.below B7.out.size (fun k hk => by omega))⟩
  rw [hw8]
  clear hw8 g0 g1 g2 q0 q1 y5 y6 f0 f1 z0 z1
  refine leaves_cons (f := 11) (args := #[.pointer (some ⟨w.heap.size, 0, none⟩), .pointer (some ⟨w.heap.size + 1, 0, none⟩)]) (by simp) (by simp [go_sem]) ?_
  refine (check_door _ _ _).mono ?_
  rintro e' u' w'' ⟨rfl, rfl, rfl⟩
  have hcs : e.cons [] = cs := HCS.out
  have hU8 := hF7.blk U7.out (by omega)
  have hK8 := (Kd.R_step (Kd.R_bound K7.out) (fun k hk hlt => hF7.block k hlt (fun e => by have := hk.2.1; omega)))
  refine ⟨_, results_cc rfl _ _ w.heap.size (w.heap.size + 1) 46 31 _ _ (0, 0) (0, 0) _ _ rfl hR8 Tryz.underlying46 rfl (by kernel_rfl) rfl hF8 Tryz.underlying31 rfl (by kernel_rfl), _, rfl, ?_, hB8⟩
  rw [hcs]
  have hn6 : n6 = cs.length := HN6.out.symm
  subst hn6
  exact ⟨_, _, A6, c6, rfl, by omega, hU8, Kd.R_lower (Kd.R_mono hK8 (fun _ _ => trivial)) (by omega)⟩
end Go.Proofs.YtaoippnipcchmaaGreatDoor.PT
