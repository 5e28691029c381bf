import Derived.Test.YtaoippnipcchmaaGreatDoorGA
import Derived.Test.YtaoippnipcchmaaGreatDoorPTx9
import Derived.Test.YtaoippnipcchmaaGreatDoorME
/- TopCode: the coder's constant, here; rows of texts. -/
namespace Go.Proofs.YtaoippnipcchmaaGreatDoor.PT
open Go.RowKit Go.Proofs.YtaoippnipcchmaaGreatDoorW.PrintWords Go.Proofs.YtaoippnipcchmaaGreatDoorW.PrintLast Go.Proofs.YtaoippnipcchmaaGreatDoorW.PrintMore
open Go.Proofs.YtaoippnipcchmaaGreatDoor.TP
set_option linter.unusedVariables false
set_option linter.unusedSimpArgs false

/-- What a call of the coder comes to. -/
def GdRes (w0 : World) (g : Nat) (F : Fx) (code : List In) (v : Value) (w : World) (r : Ending) (w' : World) : Prop := r = .returned (.tuple #[]) ∧ ∃ v', Cd w0 g F code v' w' ∧ Adv g v v' w w'
/-- The constants' row lies in the elder world. -/
structure Kons (w0 : World) (F : Fx) (cs : List Int) : Prop where
  len : cs.length ≤ 250
  row : ∃ A c, F.vC = .slice A cs.length c ∧ cs.length ≤ c ∧ Kd.C k67 w0 A cs.length (valsOf cs)
theorem C_elder {α : Type} {d : Kd α} {w0 w : World} {A : Option Addr} {n : Nat} {xs : List α} (h : d.C w0 A n xs) (hb : Below w0.heap.size w0 w) : d.C w A n xs := Kd.C_below h hb
theorem lit_strings (w : World) (l : List ByteArray) (hl : l.length ≤ 100) (t : TypeId) : Kd.C Kd.string (w.alloc (.cells (l.map Value.string).toArray t)) (some ⟨w.heap.size, 0, none⟩) l.length l := by
  refine ⟨rfl, by omega, fun _ => ⟨⟨w.heap.size, 0, none⟩, rfl, fun j p hj => ⟨[.string p], rfl, rfl, fun i u hi => ?_⟩⟩⟩
  cases i with
  | zero =>
    obtain rfl : Value.string p = u := by simpa using hi
    have hc := blk_cell (heap_alloc_new w (.cells (l.map Value.string).toArray t)) j
    have e : ((⟨w.heap.size, 0, none⟩ : Addr).add (j * Kd.string.sz + 0)) = ⟨w.heap.size, j, none⟩ := by
      have hj0 : j * Kd.string.sz + 0 = j := by
        show j * 1 + 0 = j
        omega
      rw [hj0]
      unfold Addr.add
      split
      · rename_i h0
        rw [h0]
      · simp
    rw [e, hc]
    simp [List.getElem?_map, hj]
  | succ i => simp at hi
set_option maxHeartbeats 4000000 in
set_option maxRecDepth 100000 in
theorem here_call {w0 w : World} {g : Nat} {F : Fx} {code : List In} {v : Value} (h : Cd w0 g F code v w) (hl : code.length < 65536) :
    Calls Tryz.prog 67 #[.pointer (some ⟨g, 0, none⟩)] w fun r w' => r = .returned (.int .i64 code.length) ∧ w' = w := by
  obtain ⟨Av, cv, rfl, hcv, hC⟩ := h.slice
  have g4 := h.c4
  clear h hcv hC
  go_enter Tryz.func67, Tryz.ntmps67
  go_wp2_with fail
  go_ret
  exact ⟨rfl, rfl⟩
set_option maxHeartbeats 8000000 in
set_option maxRecDepth 100000 in
theorem gconst_call {w0 w : World} {g : Nat} {F : Fx} {code : List In} {v : Value} {cs : List Int} (h : Cd w0 g F code v w) (hl : code.length < 65536) (hK : Kons w0 F cs) (n : Nat) (hn : (n : Int) ∈ cs) :
    Calls Tryz.prog 100 #[.pointer (some ⟨g, 0, none⟩), .agg #[.int .i64 2, .int .i64 n, .string ⟨#[]⟩]] w (GdRes w0 g F (code ++ [⟨2, idx cs n, 0, 0⟩]) v w) := by
  have H := Lib.hid h
  have HL := Lib.hid hl
  obtain ⟨hcl, Ac, cc, hvC, hcc, hC⟩ := hK
  have HK := Lib.hid (And.intro hcl (And.intro hcc hC))
  have HN := Lib.hid hn
  have hix : cs.idxOf (n : Int) < cs.length := List.idxOf_lt_length_iff.2 hn
  have hwr : IntKind.i64.wrap ((cs.idxOf (n : Int) : Int) + 1) = (cs.idxOf (n : Int) : Int) + 1 := IntWalk.i64_in _ (by omega)
  have hmx : Tryz.prog.follows .mixedOrders = true := by kernel_rfl
  clear h hl hcl hcc hC hn hix
  go_enter Tryz.func100, Tryz.ntmps100
  go_wp2_with fail
  obtain ⟨w1, hw1, hb1, hv1⟩ : ∃ w1, w.alloc (.cells #[.int .i64 2, .int .i64 n, .string ⟨#[]⟩] 67) = w1 ∧ Below w.heap.size w w1 ∧ w1.heap[w.heap.size]? = some (.cells #[.int .i64 2, .int .i64 n, .string ⟨#[]⟩] 67 (0, 0)) := ⟨_, rfl, below_alloc (Below.refl _ _) _, heap_alloc_new _ _⟩
  rw [hw1]
  have H1 := Lib.hid (H.out.below hb1)
  have B1 := Lib.hid hb1
  have g3 := H1.out.c3
  rw [hvC] at g3
  obtain ⟨v0, v1, v2⟩ := three_of hv1
  clear hw1 hb1 hv1
  have hx := api_Val_104.calls (cs.length + 1) Ac cc (valsOf cs) 2 n ⟨#[]⟩ (cs.idxOf (n : Int) : Int) w1.drew (by rw [valsOf_len]; exact C_elder (C_elder HK.out.2.2 H1.out.b0) (below_drew1 (Below.refl _ _))) (by rw [valsOf_len]; exact HK.out.2.1) (by have := idx_val cs n (by have := HK.out.1; omega); rw [if_pos HN.out] at this; exact this)
  rw [valsOf_len] at hx
  have HX := Lib.hid hx
  clear hx
  go_wp2_with fail
  go_region_with (first
    | (go_at_call 104; refine HX.out.mono ?_; rintro r w2 ⟨rfl, hb2⟩; have H2 := Lib.hid (((H1.out.below (below_drew1 (Below.refl _ _))).below hb2).below (below_alloc (Below.refl _ _) (.cells #[.int .i64 ((cs.idxOf (n : Int) : Int) + 1)] 3))); have B2 := Lib.hid ((B1.out.trans (((below_drew1 (Below.refl w1.heap.size w1)).trans hb2).mono B1.out.size))); have q0 := (blk_cell (heap_alloc_new w2 (.cells #[.int .i64 ((cs.idxOf (n : Int) : Int) + 1)] 3)) 0).trans rfl; clear hb2)
    | (go_at_call 21; refine (add_call H2.out HL.out 2 ((cs.idxOf (n : Int) : Int) + 1) _ (opnd_one q0)).mono ?_; rintro r w3 ⟨rfl, v3, hK3, hA3⟩; have K3 := Lib.hid (And.intro hK3 ((Adv.of_below (below_alloc B2.out (.cells #[.int .i64 ((cs.idxOf (n : Int) : Int) + 1)] 3))).trans hA3)); clear hK3 hA3))
  all_goals
    go_end0
    exact ⟨rfl, v3, K3.out.1, K3.out.2⟩
end Go.Proofs.YtaoippnipcchmaaGreatDoor.PT
/- TopCode: the coder's exp: a number, parentheses, a sign. -/
namespace Go.Proofs.YtaoippnipcchmaaGreatDoor.PT
open Go.RowKit Go.Proofs.YtaoippnipcchmaaGreatDoorW.PrintWords Go.Proofs.YtaoippnipcchmaaGreatDoorW.PrintLast Go.Proofs.YtaoippnipcchmaaGreatDoorW.PrintMore
open Go.Proofs.YtaoippnipcchmaaGreatDoor.TP
set_option linter.unusedVariables false
set_option linter.unusedSimpArgs false

/-- The contract of coder.exp at a node: what it lays, from a number on. -/
def GenC (w0 : World) (g : Nat) (F : Fx) (x : Nd) (cd : Nat → List In) : Prop := ∀ (w : World) (code : List In) (v : Value) (A : Option Addr) (c : Nat), code.length + (cd code.length).length ≤ 60000 → Cd w0 g F code v w → x.f4.length ≤ c → Kd.C k51 w0 A x.f4.length x.f4 → Calls Tryz.prog 68 #[.pointer (some ⟨g, 0, none⟩), .agg #[.int .i64 x.f0, .string x.f1, .int .i64 x.f2, .int .i64 x.f3, .slice A x.f4.length c]] w (GdRes w0 g F (code ++ cd code.length) v w)
/-- A kid's cells. -/
theorem kid_at {w0 w : World} {A : Option Addr} {n : Nat} {xs : List Nd} (h : Kd.C k51 w0 A n xs) (hb : Below w0.heap.size w0 w) (j : Nat) (hj : j < n) :
    ∃ ad A4 c4, A = some ad ∧ w.cell? (ad.add (j * 5)) = some (.int .i64 (rd_T51 xs (j : Int)).f0) ∧
      w.cell? ⟨(ad.add (j * 5)).block, (ad.add (j * 5)).off + 1, none⟩ = some (.string (rd_T51 xs (j : Int)).f1) ∧
      w.cell? ⟨(ad.add (j * 5)).block, (ad.add (j * 5)).off + 2, none⟩ = some (.int .i64 (rd_T51 xs (j : Int)).f2) ∧
      w.cell? ⟨(ad.add (j * 5)).block, (ad.add (j * 5)).off + 3, none⟩ = some (.int .i64 (rd_T51 xs (j : Int)).f3) ∧
      w.cell? ⟨(ad.add (j * 5)).block, (ad.add (j * 5)).off + 4, none⟩ = some (.slice A4 (rd_T51 xs (j : Int)).f4.length c4) ∧
      (rd_T51 xs (j : Int)).f4.length ≤ c4 ∧ Kd.C k51 w0 A4 (rd_T51 xs (j : Int)).f4.length (rd_T51 xs (j : Int)).f4 := by
  obtain ⟨ad, A4, c4, e, x0, x1, x2, x3, x4, l4, g4⟩ := at_T51 h (j : Int) (by omega) (by omega)
  rw [Int.toNat_natCast] at x0 x1 x2 x3 x4
  exact ⟨ad, A4, c4, e, (hb.cell (World.block_lt_of_cell? w0 _ x0)).trans x0, (hb.cell (World.block_lt_of_cell? w0 _ x1)).trans x1, (hb.cell (World.block_lt_of_cell? w0 _ x2)).trans x2, (hb.cell (World.block_lt_of_cell? w0 _ x3)).trans x3, (hb.cell (World.block_lt_of_cell? w0 _ x4)).trans x4, l4, g4⟩
theorem kid_0 {w0 w : World} {A : Option Addr} {n : Nat} {xs : List Nd} (h : Kd.C k51 w0 A n xs) (hb : Below w0.heap.size w0 w) (hj : 0 < n) (y : Nd) (hy : rd_T51 xs ((0 : Nat) : Int) = y) :
    ∃ ad A4 c4, A = some ad ∧ w.cell? ad = some (.int .i64 y.f0) ∧ w.cell? ⟨ad.block, ad.off + 1, none⟩ = some (.string y.f1) ∧ w.cell? ⟨ad.block, ad.off + 2, none⟩ = some (.int .i64 y.f2) ∧ w.cell? ⟨ad.block, ad.off + 3, none⟩ = some (.int .i64 y.f3) ∧ w.cell? ⟨ad.block, ad.off + 4, none⟩ = some (.slice A4 y.f4.length c4) ∧ y.f4.length ≤ c4 ∧ Kd.C k51 w0 A4 y.f4.length y.f4 := by
  obtain ⟨ad, A4, c4, e, x0, x1, x2, x3, x4, l4, g4⟩ := kid_at h hb 0 hj
  have ha : ad.add (0 * 5) = ad := by simp [Addr.add]
  rw [ha] at x0 x1 x2 x3 x4
  rw [hy] at x0 x1 x2 x3 x4 l4 g4
  exact ⟨ad, A4, c4, e, x0, x1, x2, x3, x4, l4, g4⟩
set_option maxHeartbeats 8000000 in
set_option maxRecDepth 100000 in
theorem gexp_num {w0 w : World} {g : Nat} {F : Fx} {code : List In} {v : Value} {cs : List Int} (h : Cd w0 g F code v w) (hl : code.length < 65536) (hK : Kons w0 F cs) (n : Nat) (hn : (n : Int) ∈ cs) (t : ByteArray) (a : Int) (A : Option Addr) (m c : Nat) :
    Calls Tryz.prog 68 #[.pointer (some ⟨g, 0, none⟩), .agg #[.int .i64 4, .string t, .int .i64 n, .int .i64 a, .slice A m c]] w (GdRes w0 g F (code ++ [⟨2, idx cs n, 0, 0⟩]) v w) := by
  have H := Lib.hid h
  have HL := Lib.hid (And.intro hl (And.intro hK hn))
  clear h hl hK hn
  go_enter Tryz.func68, Tryz.ntmps68
  go_wp2_with fail
  obtain ⟨w1, hw1, hb1, hn1⟩ := box_node w 4 t n a (.slice A m c)
  rw [hw1]
  have B1 := Lib.hid hb1
  obtain ⟨n0, n1, n2, n3, n4⟩ := five_of hn1
  clear hw1 hb1 hn1
  go_wp2_with fail
  refine (gconst_call (H.out.below B1.out) HL.out.1 HL.out.2.1 n HL.out.2.2).mono ?_
  rintro r w2 ⟨rfl, v2, hK2, hA2⟩
  have K2 := Lib.hid (And.intro hK2 ((Adv.of_below B1.out).trans hA2))
  clear hK2 hA2 n0 n1 n2 n3 n4
  go_wp2_with fail
  go_end0
  exact ⟨rfl, v2, K2.out.1, K2.out.2⟩
set_option maxHeartbeats 8000000 in
set_option maxRecDepth 100000 in
theorem gexp_paren {w0 w : World} {g : Nat} {F : Fx} {code : List In} {v : Value} (h : Cd w0 g F code v w) (y : Nd) (cd : Nat → List In) (hy : GenC w0 g F y cd) (hl : code.length + (cd code.length).length ≤ 60000) (t : ByteArray) (n a : Int) (A : Option Addr) (c : Nat) (hc : 1 ≤ c) (hC : Kd.C k51 w0 A 1 [y]) :
    Calls Tryz.prog 68 #[.pointer (some ⟨g, 0, none⟩), .agg #[.int .i64 9, .string t, .int .i64 n, .int .i64 a, .slice A 1 c]] w (GdRes w0 g F (code ++ cd code.length) v w) := by
  have H := Lib.hid h
  have HL := Lib.hid (And.intro hl hy)
  obtain ⟨w1, hw1, hb1, hn1⟩ := box_node w 9 t n a (.slice A 1 c)
  have B1 := Lib.hid hb1
  have N1 := Lib.hid hn1
  have K1 := Lib.hid (H.out.below hb1)
  obtain ⟨ad, A4, c4, rfl, x0, x1, x2, x3, x4, l4, g4⟩ := kid_0 hC K1.out.b0 (by omega) y rfl
  have G4 := Lib.hid (And.intro l4 g4)
  clear h hl hy hb1 hn1 hC l4 g4
  obtain ⟨n0, n1, n2, n3, n4⟩ := five_of N1.out
  go_enter Tryz.func68, Tryz.ntmps68
  go_wp2_with fail
  refine (HL.out.2 w1 code v A4 c4 HL.out.1 K1.out G4.out.1 G4.out.2).mono ?_
  rintro r w2 ⟨rfl, v2, hK2, hA2⟩
  have K2 := Lib.hid (And.intro hK2 ((Adv.of_below B1.out).trans hA2))
  clear hK2 hA2 n0 n1 n2 n3 n4 x0 x1 x2 x3 x4
  go_wp2_with fail
  go_end0
  exact ⟨rfl, v2, K2.out.1, K2.out.2⟩
set_option maxHeartbeats 8000000 in
set_option maxRecDepth 100000 in
theorem gexp_minus {w0 w : World} {g : Nat} {F : Fx} {code : List In} {v : Value} (h : Cd w0 g F code v w) (y : Nd) (cd : Nat → List In) (hy : GenC w0 g F y cd) (hl : code.length + (cd code.length).length ≤ 60000) (n a : Int) (A : Option Addr) (c : Nat) (hc : 1 ≤ c) (hC : Kd.C k51 w0 A 1 [y]) :
    Calls Tryz.prog 68 #[.pointer (some ⟨g, 0, none⟩), .agg #[.int .i64 10, .string (bs [45]), .int .i64 n, .int .i64 a, .slice A 1 c]] w (GdRes w0 g F (code ++ (cd code.length ++ [⟨16, 3, 0, 0⟩])) v w) := by
  have H := Lib.hid h
  have HL := Lib.hid (And.intro hl hy)
  obtain ⟨w1, hw1, hb1, hn1⟩ := box_node w 10 (bs [45]) n a (.slice A 1 c)
  have B1 := Lib.hid hb1
  have N1 := Lib.hid hn1
  have K1 := Lib.hid (H.out.below hb1)
  obtain ⟨ad, A4, c4, rfl, x0, x1, x2, x3, x4, l4, g4⟩ := kid_0 hC K1.out.b0 (by omega) y rfl
  have G4 := Lib.hid (And.intro l4 g4)
  have HW := Lib.hid (⟨by have := blt H.out.bg; omega, fun e => by have := H.out.own e; omega⟩ : w.heap.size ≠ g ∧ v.ownBlock ≠ some w.heap.size)
  clear h hl hy hb1 hn1 hC l4 g4
  obtain ⟨n0, n1, n2, n3, n4⟩ := five_of N1.out
  go_enter Tryz.func68, Tryz.ntmps68
  go_wp2_with fail
  refine (HL.out.2 w1 code v A4 c4 HL.out.1 K1.out G4.out.1 G4.out.2).mono ?_
  rintro r w2 ⟨rfl, v2, hK2, hA2⟩
  have hN2 := hA2.blk N1.out HW.out.1 HW.out.2
  have K2 := Lib.hid (And.intro hK2 ((Adv.of_below B1.out).trans hA2))
  clear hK2 hA2 n0 n1 n2 n3 n4 x0 x1 x2 x3 x4 hw1
  obtain ⟨n0, n1, n2, n3, n4⟩ := five_of hN2
  obtain ⟨m0, m1, m2, m3, m4⟩ := five_of (blk_alloc hN2 (.cells #[.string ⟨#[]⟩, .string ⟨#[110, 111, 116]⟩, .string ⟨#[35]⟩, .string ⟨#[45]⟩] 9))
  clear hN2
  go_wp2_with fail
  refine (slices_Index_string_string.calls 20 (some ⟨w2.heap.size, 0, none⟩) 4 [⟨#[]⟩, ⟨#[110, 111, 116]⟩, ⟨#[35]⟩, ⟨#[45]⟩] (bs [45]) 3 _ (lit_strings w2 [⟨#[]⟩, ⟨#[110, 111, 116]⟩, ⟨#[35]⟩, ⟨#[45]⟩] (by decide) 9) (Nat.le_refl _) (by kernel_rfl)).mono ?_
  rintro r w4 ⟨rfl, hd4⟩
  have hb4 := (below_alloc (Below.refl w2.heap.size w2) (.cells #[.string ⟨#[]⟩, .string ⟨#[110, 111, 116]⟩, .string ⟨#[35]⟩, .string ⟨#[45]⟩] 9)).trans (hd4.below.mono (by simp))
  have K4 := Lib.hid (And.intro (K2.out.1.below hb4) (K2.out.2.trans (Adv.of_below hb4)))
  clear hd4 hb4 n0 n1 n2 n3 n4 m0 m1 m2 m3 m4
  go_wp2_with fail
  have hb5 := below_alloc (Below.refl w4.heap.size w4) (.cells #[.int .i64 3] 3)
  refine (add_call (K4.out.1.below hb5) (by have := HL.out.1; rw [List.length_append]; omega) 16 3 _ (opnd_one ((blk_cell (heap_alloc_new w4 (.cells #[.int .i64 3] 3)) 0).trans rfl))).mono ?_
  rintro r w6 ⟨rfl, v6, hK6, hA6⟩
  have K6 := Lib.hid (And.intro hK6 ((K4.out.2.trans (Adv.of_below hb5)).trans hA6))
  clear hK6 hA6 hb5
  go_wp2_with fail
  go_end0
  rw [← List.append_assoc]
  exact ⟨rfl, v6, K6.out.1, K6.out.2⟩
end Go.Proofs.YtaoippnipcchmaaGreatDoor.PT
/- TopCode: the coder's binary. -/
namespace Go.Proofs.YtaoippnipcchmaaGreatDoor.PT
open Go.RowKit Go.Proofs.YtaoippnipcchmaaGreatDoorW.PrintWords Go.Proofs.YtaoippnipcchmaaGreatDoorW.PrintLast Go.Proofs.YtaoippnipcchmaaGreatDoorW.PrintMore
open Go.Proofs.YtaoippnipcchmaaGreatDoor.TP
set_option linter.unusedVariables false
set_option linter.unusedSimpArgs false

def opsL : List ByteArray := [⟨#[]⟩, ⟨#[43]⟩, ⟨#[45]⟩, ⟨#[42]⟩, ⟨#[47, 47]⟩, ⟨#[37]⟩, ⟨#[46, 46]⟩, ⟨#[61, 61]⟩, ⟨#[126, 61]⟩, ⟨#[60]⟩, ⟨#[60, 61]⟩, ⟨#[62]⟩, ⟨#[62, 61]⟩]
def opsO : Obj := .cells #[.string ⟨#[]⟩, .string ⟨#[43]⟩, .string ⟨#[45]⟩, .string ⟨#[42]⟩, .string ⟨#[47, 47]⟩, .string ⟨#[37]⟩, .string ⟨#[46, 46]⟩, .string ⟨#[61, 61]⟩, .string ⟨#[126, 61]⟩, .string ⟨#[60]⟩, .string ⟨#[60, 61]⟩, .string ⟨#[62]⟩, .string ⟨#[62, 61]⟩] 9
theorem ops_row (w : World) : Kd.C Kd.string (w.alloc opsO) (some ⟨w.heap.size, 0, none⟩) 13 opsL := lit_strings w opsL (by decide) 9
/-- The number of an operator; -1: and, or. -/
def opI (o : Nat) : Int := if o = 5 ∨ o = 6 then -1 else o
theorem ops_idx {o : Nat} (ho : o = 1 ∨ o = 2 ∨ o = 3 ∨ o = 5 ∨ o = 6) : slices_Index_string_string.f 20 opsL (bs (opT o)) = some (opI o) := by
  rcases ho with rfl | rfl | rfl | rfl | rfl <;> kernel_rfl
theorem kid_1 {w0 w : World} {ad : Addr} {n : Nat} {xs : List Nd} (h : Kd.C k51 w0 (some ad) n xs) (hb : Below w0.heap.size w0 w) (hj : 1 < n) (z : Nd) (hz : rd_T51 xs ((1 : Nat) : Int) = z) :
    ∃ A4 c4, w.cell? ⟨ad.block, ad.off + 5, none⟩ = some (.int .i64 z.f0) ∧ w.cell? ⟨ad.block, ad.off + 5 + 1, none⟩ = some (.string z.f1) ∧ w.cell? ⟨ad.block, ad.off + 5 + 2, none⟩ = some (.int .i64 z.f2) ∧ w.cell? ⟨ad.block, ad.off + 5 + 3, none⟩ = some (.int .i64 z.f3) ∧ w.cell? ⟨ad.block, ad.off + 5 + 4, none⟩ = some (.slice A4 z.f4.length c4) ∧ z.f4.length ≤ c4 ∧ Kd.C k51 w0 A4 z.f4.length z.f4 := by
  obtain ⟨ad', A4, c4, e, x0, x1, x2, x3, x4, l4, g4⟩ := kid_at h hb 1 hj
  obtain rfl := Option.some.inj e
  rw [hz] at x0 x1 x2 x3 x4 l4 g4
  have ha : ad.add (1 * 5) = ⟨ad.block, ad.off + 5, none⟩ := by simp [Addr.add]
  rw [ha] at x0 x1 x2 x3 x4
  exact ⟨A4, c4, x0, x1, x2, x3, x4, l4, g4⟩
/-- An instruction's target is written. -/
theorem Cd.patch {w0 w : World} {g : Nat} {F : Fx} {code : List In} {b c : Nat} (h : Cd w0 g F code (.slice (some ⟨b, 0, none⟩) code.length c) w) (i : Nat) (hi : i < code.length) (q : In) (hq : code[i]? = some q) (x : Int) :
    Cd w0 g F (code.set i ⟨q.op, x, q.b, q.c⟩) (.slice (some ⟨b, 0, none⟩) code.length c) (w.setCell ⟨b, i * 4 + 1, none⟩ (.int .i64 x)) ∧ Adv g (.slice (some ⟨b, 0, none⟩) code.length c) (.slice (some ⟨b, 0, none⟩) code.length c) w (w.setCell ⟨b, i * 4 + 1, none⟩ (.int .i64 x)) := by
  have hbg : b ≠ g := h.row.1 b (by simp [Value.ownBlock])
  have hr := h.row
  obtain ⟨cs, hcl, hM, hc, hfz⟩ := Kd.R_elem hr z65 (i : Int) (by omega) (by omega)
  rw [Int.toNat_natCast] at hM hc
  have hg : (ixs code).getD i z65 = ixOf q := by
    rw [List.getD_eq_getElem?_getD]
    unfold ixs
    rw [List.getElem?_map, hq]
    rfl
  rw [hg] at hM
  obtain rfl := k65_openM hM
  obtain ⟨hR, hG⟩ := Kd.R_seg (seg := [.int .i64 x]) (j := 1) (x' := ixOf ⟨q.op, x, q.b, q.c⟩) (okp := fun _ => False) hr (i : Int) (by omega) (by omega) hcl (by rw [Int.toNat_natCast]; exact hc) (show 1 + 1 ≤ 4 by decide) (k65_mkM _ _ _ _) (fun _ hk => hk.elim)
  rw [Int.toNat_natCast] at hR hG
  refine ⟨⟨blk_far h.bg (p := ⟨b, i * 4 + 1, none⟩) (Ne.symm hbg) _, ?_, ?_, h.g0⟩, ⟨by simp, fun k hk hks hv => Below.heap_setCell w ⟨b, i * 4 + 1, none⟩ _ k (fun e => hv (by simp [Value.ownBlock]; exact e.symm)), .inl rfl⟩⟩
  · have e : ixs (code.set i ⟨q.op, x, q.b, q.c⟩) = (ixs code).set i (ixOf ⟨q.op, x, q.b, q.c⟩) := by unfold ixs; rw [List.map_set]
    rw [e]
    exact hR
  · exact h.b0.setCell (p := ⟨b, i * 4 + 1, none⟩) (Kd.R_base hr b (by simp [Value.ownBlock])) _
/-- Its cell. -/
theorem Cd.cell {w0 w : World} {g : Nat} {F : Fx} {code : List In} {b c : Nat} (h : Cd w0 g F code (.slice (some ⟨b, 0, none⟩) code.length c) w) (i : Nat) (hi : i < code.length) : ∃ y, w.cell? ⟨b, i * 4 + 1, none⟩ = some y ∧ w.frozen? ⟨b, i * 4 + 1, none⟩ = false := by
  obtain ⟨cs, hcl, hM, hc, hfz⟩ := Kd.R_elem h.row z65 (i : Int) (by omega) (by omega)
  rw [Int.toNat_natCast] at hc hfz
  have h4 : cs.length = 4 := hcl
  exact ⟨_, hc 1 _ (List.getElem?_eq_getElem (by omega)), hfz 1⟩
theorem set_mid (l : List In) (q q' : In) (m : List In) : (l ++ q :: m).set l.length q' = l ++ q' :: m := by simp
/-- A block that is none of the row's is none of it later. -/
theorem Adv.ne {s : Nat} {v v' : Value} {w w' : World} (h : Adv s v v' w w') {b : Nat} (hb : b < w.heap.size) (hv : v.ownBlock ≠ some b) : v'.ownBlock ≠ some b := by
  rcases h.own with h1 | ⟨c, h1, h2⟩
  · rw [h1]; exact hv
  · rw [h1]
    intro e
    have := Option.some.inj e
    omega
/-- The row's block, where there is an instruction. -/
theorem Cd.head {w0 w : World} {g : Nat} {F : Fx} {code : List In} {v : Value} (h : Cd w0 g F code v w) (hl : 0 < code.length) : ∃ b c, v = .slice (some ⟨b, 0, none⟩) code.length c := by
  obtain ⟨A, c, rfl, hc, hC⟩ := h.slice
  obtain ⟨ad, rfl, _⟩ := hC.2.2 hl
  obtain ⟨b, rfl⟩ := Kd.R_head h.row
  exact ⟨b, c, rfl⟩
end Go.Proofs.YtaoippnipcchmaaGreatDoor.PT
/- TopCode: the coder's binary: its walk. -/
namespace Go.Proofs.YtaoippnipcchmaaGreatDoor.PT
open Go.RowKit Go.Proofs.YtaoippnipcchmaaGreatDoorW.PrintWords Go.Proofs.YtaoippnipcchmaaGreatDoorW.PrintLast Go.Proofs.YtaoippnipcchmaaGreatDoorW.PrintMore
open Go.Proofs.YtaoippnipcchmaaGreatDoor.TP
set_option linter.unusedVariables false
set_option linter.unusedSimpArgs false

set_option maxHeartbeats 8000000 in
set_option maxRecDepth 100000 in
theorem gbin_num {w0 w : World} {g : Nat} {F : Fx} {code : List In} {v : Value} (h : Cd w0 g F code v w) (o : Nat) (ho : o = 1 ∨ o = 2 ∨ o = 3) (y z : Nd) (ca cb : Nat → List In) (hy : GenC w0 g F y ca) (hz : GenC w0 g F z cb) (hl : code.length + (ca code.length).length + 1 + (cb (code.length + (ca code.length).length)).length ≤ 60000) (n a : Int) (A : Option Addr) (c : Nat) (hc : 2 ≤ c) (hC : Kd.C k51 w0 A 2 [y, z]) :
    Calls Tryz.prog 101 #[.pointer (some ⟨g, 0, none⟩), .agg #[.int .i64 11, .string (bs (opT o)), .int .i64 n, .int .i64 a, .slice A 2 c]] w (GdRes w0 g F (code ++ (ca code.length ++ cb (code.length + (ca code.length).length) ++ [⟨17, (o : Int), 0, 0⟩])) v w) := by
  obtain ⟨res, hres⟩ : ∃ res, code ++ (ca code.length ++ cb (code.length + (ca code.length).length) ++ [⟨17, (o : Int), 0, 0⟩]) = res := ⟨_, rfl⟩
  rw [hres]
  have HR := Lib.hid hres
  clear hres
  have H := Lib.hid h
  have HL := Lib.hid (And.intro hl (And.intro hy hz))
  have hw := box_node w 11 (bs (opT o)) n a (.slice A 2 c)
  have HO := Lib.hid (show o = 1 ∨ o = 2 ∨ o = 3 ∨ o = 5 ∨ o = 6 by omega)
  have hoi : opI o = o := by unfold opI; rw [if_neg (by omega)]
  have d1 : decide (opI o > 0) = true := decide_eq_true (by rw [hoi]; omega)
  have d2 : decide (0 < opI o) = true := decide_eq_true (by rw [hoi]; omega)
  have HI := Lib.hid hoi
  clear hoi
  have HW := Lib.hid (⟨by have := blt H.out.bg; omega, fun e => by have := H.out.own e; omega⟩ : w.heap.size ≠ g ∧ v.ownBlock ≠ some w.heap.size)
  obtain ⟨tx, htx⟩ : ∃ tx, bs (opT o) = tx := ⟨_, rfl⟩
  rw [htx] at hw ⊢
  have HT := Lib.hid htx
  obtain ⟨w1, hw1, hb1, hn1⟩ := hw
  have B1 := Lib.hid hb1
  have N1 := Lib.hid hn1
  have K1 := Lib.hid (H.out.below hb1)
  obtain ⟨ad, A4, c4, rfl, x0, x1, x2, x3, x4, l4, g4⟩ := kid_0 hC K1.out.b0 (by omega) y rfl
  have G4 := Lib.hid (And.intro l4 g4)
  have HC := Lib.hid hC
  have c1 : (1 : Int) < (2 : Int) := by omega
  clear h hl hy hz hb1 hn1 hC l4 g4 ho htx
  obtain ⟨n0, n1, n2, n3, n4⟩ := five_of N1.out
  go_enter Tryz.func101, Tryz.ntmps101
  go_wp2_with fail
  refine (HL.out.2.1 w1 code v A4 c4 (by have := HL.out.1; omega) K1.out G4.out.1 G4.out.2).mono ?_
  rintro r w2 ⟨rfl, v2, hK2, hA2⟩
  have hN2 := hA2.blk N1.out HW.out.1 HW.out.2
  have K2 := Lib.hid (And.intro hK2 ((Adv.of_below B1.out).trans hA2))
  have HV := Lib.hid (hA2.ne (blt N1.out) HW.out.2)
  have N2 := Lib.hid (blk_alloc hN2 opsO)
  clear hK2 hA2 n0 n1 n2 n3 n4 x0 x1 x2 x3 x4 hw1 hN2 G4 N1
  obtain ⟨m0, m1, m2, m3, m4⟩ := five_of N2.out
  unfold opsO at m0 m1 m2 m3 m4
  go_wp2_with fail
  have hx := slices_Index_string_string.calls 20 (some ⟨w2.heap.size, 0, none⟩) 13 opsL tx (opI o) (w2.alloc opsO) (ops_row w2) (Nat.le_refl _) (by rw [← HT.out]; exact ops_idx HO.out)
  refine hx.mono ?_
  rintro r w4 ⟨rfl, hd4⟩
  have hb4 := (below_alloc (Below.refl w2.heap.size w2) opsO).trans (hd4.below.mono (by simp))
  have N4 := Lib.hid (Bel.blk hd4.below N2.out)
  have K4 := Lib.hid (And.intro (K2.out.1.below hb4) (K2.out.2.trans (Adv.of_below hb4)))
  clear hd4 hb4 m0 m1 m2 m3 m4 hx N2 K2
  obtain ⟨n0, n1, n2, n3, n4⟩ := five_of N4.out
  obtain ⟨A5, c5, x0, x1, x2, x3, x4, l5, g5⟩ := kid_1 HC.out K4.out.1.b0 (by omega) z rfl
  have G5 := Lib.hid (And.intro l5 g5)
  clear l5 g5
  go_wp2_with fail
  have hpz : (code ++ ca code.length).length = code.length + (ca code.length).length := List.length_append
  refine (HL.out.2.2 w4 _ _ A5 c5 (by rw [hpz]; have := HL.out.1; omega) K4.out.1 G5.out.1 G5.out.2).mono ?_
  rintro r w5 ⟨rfl, v5, hK5, hA5⟩
  rw [hpz] at hK5
  have K5 := Lib.hid (And.intro hK5 (K4.out.2.trans hA5))
  clear hK5 hA5 n0 n1 n2 n3 n4 x0 x1 x2 x3 x4 hpz
  go_wp2_with fail
  have hb6 := below_alloc (Below.refl w5.heap.size w5) (.cells #[.int .i64 (opI o)] 3)
  refine (add_call (K5.out.1.below hb6) (by have := HL.out.1; rw [List.length_append, List.length_append]; omega) 17 (opI o) _ (opnd_one ((blk_cell (heap_alloc_new w5 (.cells #[.int .i64 (opI o)] 3)) 0).trans rfl))).mono ?_
  rintro r w6 ⟨rfl, v6, hK6, hA6⟩
  have K6 := Lib.hid (And.intro hK6 ((K5.out.2.trans (Adv.of_below hb6)).trans hA6))
  clear hK6 hA6 hb6
  go_wp2_with fail
  go_end0
  rw [HI.out] at K6
  have q := K6.out.1
  refine ⟨rfl, v6, ?_, K6.out.2⟩
  rw [← HR.out]
  simp only [List.append_assoc] at q ⊢
  exact q
set_option maxHeartbeats 8000000 in
set_option maxRecDepth 100000 in
theorem gbin_and {w0 w : World} {g : Nat} {F : Fx} {code : List In} {v : Value} (h : Cd w0 g F code v w) (o : Nat) (ho : o = 5) (y z : Nd) (ca cb : Nat → List In) (hy : GenC w0 g F y ca) (hz : GenC w0 g F z cb) (hl : code.length + (ca code.length).length + 1 + (cb (code.length + (ca code.length).length + 1)).length ≤ 60000) (n a : Int) (A : Option Addr) (c : Nat) (hc : 2 ≤ c) (hC : Kd.C k51 w0 A 2 [y, z]) :
    Calls Tryz.prog 101 #[.pointer (some ⟨g, 0, none⟩), .agg #[.int .i64 11, .string (bs (opT o)), .int .i64 n, .int .i64 a, .slice A 2 c]] w (GdRes w0 g F (code ++ (ca code.length ++ ⟨20, ((code.length + (ca code.length).length + 1 + (cb (code.length + (ca code.length).length + 1)).length : Nat) : Int), 0, 0⟩ :: cb (code.length + (ca code.length).length + 1))) v w) := by
  obtain ⟨res, hres⟩ : ∃ res, code ++ (ca code.length ++ ⟨20, ((code.length + (ca code.length).length + 1 + (cb (code.length + (ca code.length).length + 1)).length : Nat) : Int), 0, 0⟩ :: cb (code.length + (ca code.length).length + 1)) = res := ⟨_, rfl⟩
  rw [hres]
  have HR := Lib.hid hres
  clear hres
  have H := Lib.hid h
  have HL := Lib.hid (And.intro hl (And.intro hy hz))
  have hw := box_node w 11 (bs (opT o)) n a (.slice A 2 c)
  have HO := Lib.hid (show o = 1 ∨ o = 2 ∨ o = 3 ∨ o = 5 ∨ o = 6 by omega)
  have hoi : opI o = -1 := by unfold opI; rw [if_pos (by omega)]
  have d1 : decide (opI o > 0) = false := decide_eq_false (by rw [hoi]; omega)
  have d2 : decide (0 < opI o) = false := decide_eq_false (by rw [hoi]; omega)
  have HE := Lib.hid ho
  clear hoi
  have HW := Lib.hid (⟨by have := blt H.out.bg; omega, fun e => by have := H.out.own e; omega⟩ : w.heap.size ≠ g ∧ v.ownBlock ≠ some w.heap.size)
  obtain ⟨tx, htx⟩ : ∃ tx, bs (opT o) = tx := ⟨_, rfl⟩
  rw [htx] at hw ⊢
  have HT := Lib.hid htx
  obtain ⟨w1, hw1, hb1, hn1⟩ := hw
  have B1 := Lib.hid hb1
  have N1 := Lib.hid hn1
  have K1 := Lib.hid (H.out.below hb1)
  obtain ⟨ad, A4, c4, rfl, x0, x1, x2, x3, x4, l4, g4⟩ := kid_0 hC K1.out.b0 (by omega) y rfl
  have G4 := Lib.hid (And.intro l4 g4)
  have HC := Lib.hid hC
  have c1 : (1 : Int) < (2 : Int) := by omega
  clear h hl hy hz hb1 hn1 hC l4 g4 ho htx
  obtain ⟨n0, n1, n2, n3, n4⟩ := five_of N1.out
  go_enter Tryz.func101, Tryz.ntmps101
  go_wp2_with fail
  refine (HL.out.2.1 w1 code v A4 c4 (by have := HL.out.1; omega) K1.out G4.out.1 G4.out.2).mono ?_
  rintro r w2 ⟨rfl, v2, hK2, hA2⟩
  have hN2 := hA2.blk N1.out HW.out.1 HW.out.2
  have K2 := Lib.hid (And.intro hK2 ((Adv.of_below B1.out).trans hA2))
  have HV := Lib.hid (hA2.ne (blt N1.out) HW.out.2)
  have N2 := Lib.hid (blk_alloc hN2 opsO)
  clear hK2 hA2 n0 n1 n2 n3 n4 x0 x1 x2 x3 x4 hw1 hN2 G4 N1
  obtain ⟨m0, m1, m2, m3, m4⟩ := five_of N2.out
  unfold opsO at m0 m1 m2 m3 m4
  go_wp2_with fail
  have hx := slices_Index_string_string.calls 20 (some ⟨w2.heap.size, 0, none⟩) 13 opsL tx (opI o) (w2.alloc opsO) (ops_row w2) (Nat.le_refl _) (by rw [← HT.out]; exact ops_idx HO.out)
  refine hx.mono ?_
  rintro r w4 ⟨rfl, hd4⟩
  have hb4 := (below_alloc (Below.refl w2.heap.size w2) opsO).trans (hd4.below.mono (by simp))
  have N4 := Lib.hid (Bel.blk hd4.below N2.out)
  have K4 := Lib.hid (And.intro (K2.out.1.below hb4) (K2.out.2.trans (Adv.of_below hb4)))
  clear hd4 hb4 m0 m1 m2 m3 m4 hx N2 K2
  obtain ⟨n0, n1, n2, n3, n4⟩ := five_of N4.out
  have htq : (tx.toList == [111, 114]) = false := by rw [← HT.out, HE.out, toList_data]; rfl
  have htr : (tx.data.toList == [111, 114]) = false := by rw [← toList_data]; exact htq
  go_wp2_with fail
  have hP : (code ++ ca code.length).length = code.length + (ca code.length).length := List.length_append
  refine (add_call K4.out.1 (by rw [hP]; have := HL.out.1; omega) 20 0 _ (opnd_none w4)).mono ?_
  rintro r w5 ⟨rfl, v5, hK5, hA5⟩
  have N5 := Lib.hid (hA5.blk N4.out HW.out.1 HV.out)
  have HV5 := Lib.hid (hA5.ne (blt N4.out) HV.out)
  have K5 := Lib.hid (And.intro hK5 (K4.out.2.trans hA5))
  obtain ⟨P, hPe⟩ : ∃ P, code.length + (ca code.length).length = P := ⟨_, rfl⟩
  rw [hPe] at hP
  rw [hP]
  have HP := Lib.hid (And.intro hP hPe)
  clear hK5 hA5 n0 n1 n2 n3 n4 hP hPe N4 HV
  obtain ⟨n0, n1, n2, n3, n4⟩ := five_of N5.out
  obtain ⟨A5, c5, x0, x1, x2, x3, x4, l5, g5⟩ := kid_1 HC.out K5.out.1.b0 (by omega) z rfl
  have G5 := Lib.hid (And.intro l5 g5)
  clear l5 g5
  go_wp2_with fail
  have hl2 : (code ++ ca code.length ++ [(⟨20, 0, 0, 0⟩ : In)]).length = P + 1 := by rw [List.length_append, HP.out.1]; rfl
  refine (HL.out.2.2 w5 _ _ A5 c5 (by rw [hl2, ← HP.out.2]; have := HL.out.1; omega) K5.out.1 G5.out.1 G5.out.2).mono ?_
  rintro r w6 ⟨rfl, v6, hK6, hA6⟩
  rw [hl2, List.append_assoc] at hK6
  obtain ⟨B, hB⟩ : ∃ B, cb (P + 1) = B := ⟨_, rfl⟩
  rw [hB, List.singleton_append] at hK6
  have HB := Lib.hid hB
  obtain ⟨L, hL⟩ : ∃ L, (code ++ ca code.length ++ (⟨20, 0, 0, 0⟩ : In) :: B).length = L := ⟨_, rfl⟩
  have hL2 : L = P + 1 + B.length := by rw [← hL, List.length_append, HP.out.1, List.length_cons]; omega
  obtain ⟨b, c6, rfl⟩ := hK6.head (by rw [hL]; omega)
  have K6 := Lib.hid (And.intro hK6 (K5.out.2.trans hA6))
  have HLL := Lib.hid (And.intro hL hL2)
  have hL6 : L < 65536 := by have := HL.out.1; rw [HP.out.2, hB] at this; omega
  rw [hL] at hK6
  have r4 := hK6.c4
  have p1 : (0 ≤ (P : Int)) = True := eq_true (by omega)
  have q1 : ((P : Int) < (L : Int)) = True := eq_true (by omega)
  obtain ⟨y0, c0, f0⟩ := K6.out.1.cell P (by rw [hL]; omega)
  have HL6 := Lib.hid hL6
  clear hK6 hA6 hl2 hB hL hL2 n0 n1 n2 n3 n4 x0 x1 x2 x3 x4 N5 hL6
  have hmx : Tryz.prog.follows .mixedOrders = true := by kernel_rfl
  go_wp2_with fail
  have hh := here_call (K6.out.1.below (Below.refl _ _).drew) (by rw [HLL.out.1]; exact HL6.out)
  rw [HLL.out.1] at hh
  have HH := Lib.hid hh
  clear hh
  go_region_with (go_at_call 67; refine HH.out.mono ?_; rintro r w7 ⟨rfl, rfl⟩)
  all_goals
    go_end0
    obtain ⟨h1, h2⟩ := HLL.out
    obtain ⟨h3, h4⟩ := HP.out
    have k6 := K6.out.1.below (Below.refl _ _).drew
    have hq : (code ++ ca code.length ++ (⟨20, 0, 0, 0⟩ : In) :: B)[P]? = some ⟨20, 0, 0, 0⟩ := by rw [← h3]; simp
    have hQ := k6.patch P (by rw [h1]; omega) _ hq (L : Int)
    have hs := set_mid (code ++ ca code.length) ⟨20, 0, 0, 0⟩ ⟨20, (L : Int), 0, 0⟩ B
    rw [h3] at hs
    have hr : res = code ++ ca code.length ++ (⟨20, (L : Int), 0, 0⟩ : In) :: B := by rw [← HR.out, h4, HB.out, ← h2, List.append_assoc]
    rw [hs, ← hr, h1] at hQ
    have k7 := K6.out.2.trans (Adv.of_below (Below.refl _ _).drew)
    rw [h1] at k7
    exact ⟨rfl, _, hQ.1, k7.trans hQ.2⟩
set_option maxHeartbeats 8000000 in
set_option maxRecDepth 100000 in
theorem gbin_or {w0 w : World} {g : Nat} {F : Fx} {code : List In} {v : Value} (h : Cd w0 g F code v w) (o : Nat) (ho : o = 6) (y z : Nd) (ca cb : Nat → List In) (hy : GenC w0 g F y ca) (hz : GenC w0 g F z cb) (hl : code.length + (ca code.length).length + 1 + (cb (code.length + (ca code.length).length + 1)).length ≤ 60000) (n a : Int) (A : Option Addr) (c : Nat) (hc : 2 ≤ c) (hC : Kd.C k51 w0 A 2 [y, z]) :
    Calls Tryz.prog 101 #[.pointer (some ⟨g, 0, none⟩), .agg #[.int .i64 11, .string (bs (opT o)), .int .i64 n, .int .i64 a, .slice A 2 c]] w (GdRes w0 g F (code ++ (ca code.length ++ ⟨21, ((code.length + (ca code.length).length + 1 + (cb (code.length + (ca code.length).length + 1)).length : Nat) : Int), 0, 0⟩ :: cb (code.length + (ca code.length).length + 1))) v w) := by
  obtain ⟨res, hres⟩ : ∃ res, code ++ (ca code.length ++ ⟨21, ((code.length + (ca code.length).length + 1 + (cb (code.length + (ca code.length).length + 1)).length : Nat) : Int), 0, 0⟩ :: cb (code.length + (ca code.length).length + 1)) = res := ⟨_, rfl⟩
  rw [hres]
  have HR := Lib.hid hres
  clear hres
  have H := Lib.hid h
  have HL := Lib.hid (And.intro hl (And.intro hy hz))
  have hw := box_node w 11 (bs (opT o)) n a (.slice A 2 c)
  have HO := Lib.hid (show o = 1 ∨ o = 2 ∨ o = 3 ∨ o = 5 ∨ o = 6 by omega)
  have hoi : opI o = -1 := by unfold opI; rw [if_pos (by omega)]
  have d1 : decide (opI o > 0) = false := decide_eq_false (by rw [hoi]; omega)
  have d2 : decide (0 < opI o) = false := decide_eq_false (by rw [hoi]; omega)
  have HE := Lib.hid ho
  clear hoi
  have HW := Lib.hid (⟨by have := blt H.out.bg; omega, fun e => by have := H.out.own e; omega⟩ : w.heap.size ≠ g ∧ v.ownBlock ≠ some w.heap.size)
  obtain ⟨tx, htx⟩ : ∃ tx, bs (opT o) = tx := ⟨_, rfl⟩
  rw [htx] at hw ⊢
  have HT := Lib.hid htx
  obtain ⟨w1, hw1, hb1, hn1⟩ := hw
  have B1 := Lib.hid hb1
  have N1 := Lib.hid hn1
  have K1 := Lib.hid (H.out.below hb1)
  obtain ⟨ad, A4, c4, rfl, x0, x1, x2, x3, x4, l4, g4⟩ := kid_0 hC K1.out.b0 (by omega) y rfl
  have G4 := Lib.hid (And.intro l4 g4)
  have HC := Lib.hid hC
  have c1 : (1 : Int) < (2 : Int) := by omega
  clear h hl hy hz hb1 hn1 hC l4 g4 ho htx
  obtain ⟨n0, n1, n2, n3, n4⟩ := five_of N1.out
  go_enter Tryz.func101, Tryz.ntmps101
  go_wp2_with fail
  refine (HL.out.2.1 w1 code v A4 c4 (by have := HL.out.1; omega) K1.out G4.out.1 G4.out.2).mono ?_
  rintro r w2 ⟨rfl, v2, hK2, hA2⟩
  have hN2 := hA2.blk N1.out HW.out.1 HW.out.2
  have K2 := Lib.hid (And.intro hK2 ((Adv.of_below B1.out).trans hA2))
  have HV := Lib.hid (hA2.ne (blt N1.out) HW.out.2)
  have N2 := Lib.hid (blk_alloc hN2 opsO)
  clear hK2 hA2 n0 n1 n2 n3 n4 x0 x1 x2 x3 x4 hw1 hN2 G4 N1
  obtain ⟨m0, m1, m2, m3, m4⟩ := five_of N2.out
  unfold opsO at m0 m1 m2 m3 m4
  go_wp2_with fail
  have hx := slices_Index_string_string.calls 20 (some ⟨w2.heap.size, 0, none⟩) 13 opsL tx (opI o) (w2.alloc opsO) (ops_row w2) (Nat.le_refl _) (by rw [← HT.out]; exact ops_idx HO.out)
  refine hx.mono ?_
  rintro r w4 ⟨rfl, hd4⟩
  have hb4 := (below_alloc (Below.refl w2.heap.size w2) opsO).trans (hd4.below.mono (by simp))
  have N4 := Lib.hid (Bel.blk hd4.below N2.out)
  have K4 := Lib.hid (And.intro (K2.out.1.below hb4) (K2.out.2.trans (Adv.of_below hb4)))
  clear hd4 hb4 m0 m1 m2 m3 m4 hx N2 K2
  obtain ⟨n0, n1, n2, n3, n4⟩ := five_of N4.out
  have htq : (tx.toList == [111, 114]) = true := by rw [← HT.out, HE.out, toList_data]; rfl
  have htr : (tx.data.toList == [111, 114]) = true := by rw [← toList_data]; exact htq
  go_wp2_with fail
  have hP : (code ++ ca code.length).length = code.length + (ca code.length).length := List.length_append
  refine (add_call K4.out.1 (by rw [hP]; have := HL.out.1; omega) 21 0 _ (opnd_none w4)).mono ?_
  rintro r w5 ⟨rfl, v5, hK5, hA5⟩
  have N5 := Lib.hid (hA5.blk N4.out HW.out.1 HV.out)
  have HV5 := Lib.hid (hA5.ne (blt N4.out) HV.out)
  have K5 := Lib.hid (And.intro hK5 (K4.out.2.trans hA5))
  obtain ⟨P, hPe⟩ : ∃ P, code.length + (ca code.length).length = P := ⟨_, rfl⟩
  rw [hPe] at hP
  rw [hP]
  have HP := Lib.hid (And.intro hP hPe)
  clear hK5 hA5 n0 n1 n2 n3 n4 hP hPe N4 HV
  obtain ⟨n0, n1, n2, n3, n4⟩ := five_of N5.out
  obtain ⟨A5, c5, x0, x1, x2, x3, x4, l5, g5⟩ := kid_1 HC.out K5.out.1.b0 (by omega) z rfl
  have G5 := Lib.hid (And.intro l5 g5)
  clear l5 g5
  go_wp2_with fail
  have hl2 : (code ++ ca code.length ++ [(⟨21, 0, 0, 0⟩ : In)]).length = P + 1 := by rw [List.length_append, HP.out.1]; rfl
  refine (HL.out.2.2 w5 _ _ A5 c5 (by rw [hl2, ← HP.out.2]; have := HL.out.1; omega) K5.out.1 G5.out.1 G5.out.2).mono ?_
  rintro r w6 ⟨rfl, v6, hK6, hA6⟩
  rw [hl2, List.append_assoc] at hK6
  obtain ⟨B, hB⟩ : ∃ B, cb (P + 1) = B := ⟨_, rfl⟩
  rw [hB, List.singleton_append] at hK6
  have HB := Lib.hid hB
  obtain ⟨L, hL⟩ : ∃ L, (code ++ ca code.length ++ (⟨21, 0, 0, 0⟩ : In) :: B).length = L := ⟨_, rfl⟩
  have hL2 : L = P + 1 + B.length := by rw [← hL, List.length_append, HP.out.1, List.length_cons]; omega
  obtain ⟨b, c6, rfl⟩ := hK6.head (by rw [hL]; omega)
  have K6 := Lib.hid (And.intro hK6 (K5.out.2.trans hA6))
  have HLL := Lib.hid (And.intro hL hL2)
  have hL6 : L < 65536 := by have := HL.out.1; rw [HP.out.2, hB] at this; omega
  rw [hL] at hK6
  have r4 := hK6.c4
  have p1 : (0 ≤ (P : Int)) = True := eq_true (by omega)
  have q1 : ((P : Int) < (L : Int)) = True := eq_true (by omega)
  obtain ⟨y0, c0, f0⟩ := K6.out.1.cell P (by rw [hL]; omega)
  have HL6 := Lib.hid hL6
  clear hK6 hA6 hl2 hB hL hL2 n0 n1 n2 n3 n4 x0 x1 x2 x3 x4 N5 hL6
  have hmx : Tryz.prog.follows .mixedOrders = true := by kernel_rfl
  go_wp2_with fail
  have hh := here_call (K6.out.1.below (Below.refl _ _).drew) (by rw [HLL.out.1]; exact HL6.out)
  rw [HLL.out.1] at hh
  have HH := Lib.hid hh
  clear hh
  go_region_with (go_at_call 67; refine HH.out.mono ?_; rintro r w7 ⟨rfl, rfl⟩)
  all_goals
    go_end0
    obtain ⟨h1, h2⟩ := HLL.out
    obtain ⟨h3, h4⟩ := HP.out
    have k6 := K6.out.1.below (Below.refl _ _).drew
    have hq : (code ++ ca code.length ++ (⟨21, 0, 0, 0⟩ : In) :: B)[P]? = some ⟨21, 0, 0, 0⟩ := by rw [← h3]; simp
    have hQ := k6.patch P (by rw [h1]; omega) _ hq (L : Int)
    have hs := set_mid (code ++ ca code.length) ⟨21, 0, 0, 0⟩ ⟨21, (L : Int), 0, 0⟩ B
    rw [h3] at hs
    have hr : res = code ++ ca code.length ++ (⟨21, (L : Int), 0, 0⟩ : In) :: B := by rw [← HR.out, h4, HB.out, ← h2, List.append_assoc]
    rw [hs, ← hr, h1] at hQ
    have k7 := K6.out.2.trans (Adv.of_below (Below.refl _ _).drew)
    rw [h1] at k7
    exact ⟨rfl, _, hQ.1, k7.trans hQ.2⟩
end Go.Proofs.YtaoippnipcchmaaGreatDoor.PT
/- TopCode: the coder's exp over an expression's tree. -/
namespace Go.Proofs.YtaoippnipcchmaaGreatDoor.PT
open Go.RowKit Go.Proofs.YtaoippnipcchmaaGreatDoorW.PrintWords Go.Proofs.YtaoippnipcchmaaGreatDoorW.PrintLast Go.Proofs.YtaoippnipcchmaaGreatDoorW.PrintMore
open Go.Proofs.YtaoippnipcchmaaGreatDoor.TP
set_option linter.unusedVariables false
set_option linter.unusedSimpArgs false

set_option maxHeartbeats 8000000 in
set_option maxRecDepth 100000 in
theorem gexp_bin {w0 w : World} {g : Nat} {F : Fx} {code' : List In} {v : Value} (t : ByteArray) (n a : Int) (A : Option Addr) (m c : Nat)
    (hE : ∀ W, Below w.heap.size w W → Calls Tryz.prog 101 #[.pointer (some ⟨g, 0, none⟩), .agg #[.int .i64 11, .string t, .int .i64 n, .int .i64 a, .slice A m c]] W (GdRes w0 g F code' v W)) :
    Calls Tryz.prog 68 #[.pointer (some ⟨g, 0, none⟩), .agg #[.int .i64 11, .string t, .int .i64 n, .int .i64 a, .slice A m c]] w (GdRes w0 g F code' v w) := by
  have HQ := Lib.hid hE
  clear hE
  go_enter Tryz.func68, Tryz.ntmps68
  go_wp2_with fail
  obtain ⟨w1, hw1, hb1, hn1⟩ := box_node w 11 t n a (.slice A m c)
  rw [hw1]
  have B1 := Lib.hid hb1
  obtain ⟨n0, n1, n2, n3, n4⟩ := five_of hn1
  clear hw1 hb1 hn1
  go_wp2_with fail
  refine (HQ.out _ (B1.out)).mono ?_
  rintro r w2 ⟨rfl, v2, hK2, hA2⟩
  have K2 := Lib.hid (And.intro hK2 ((Adv.of_below B1.out).trans hA2))
  clear hK2 hA2 n0 n1 n2 n3 n4
  go_wp2_with fail
  go_end0
  exact ⟨rfl, v2, K2.out.1, K2.out.2⟩
/-- What is in parentheses, without them. -/
theorem gen_two {w0 : World} {g : Nat} {F : Fx} {cs : List Int} {o : Nat} (ho : o = 1 ∨ o = 2 ∨ o = 3 ∨ o = 5 ∨ o = 6) (a b : Ex) (y z x : Nd) (hy : GenC w0 g F y (a.code cs)) (hz : GenC w0 g F z (b.code cs)) (h0 : x.f0 = 11) (h1 : x.f1 = bs (opT o)) (h4 : x.f4 = [y, z]) : GenC w0 g F x ((Ex.op o a b).code cs) := by
  obtain ⟨x0, x1, x2, x3, x4⟩ := x
  simp only at h0 h1 h4
  subst h0 h1 h4
  intro w code v A c hl h hc hC
  simp only [List.length_cons, List.length_nil] at hc hC ⊢
  by_cases h56 : o = 5 ∨ o = 6
  · have e : (Ex.op o a b).code cs code.length = a.code cs code.length ++ ⟨if o = 5 then 20 else 21, ((code.length + (a.code cs code.length).length + 1 + (b.code cs (code.length + (a.code cs code.length).length + 1)).length : Nat) : Int), 0, 0⟩ :: b.code cs (code.length + (a.code cs code.length).length + 1) := by
      conv => lhs; unfold Ex.code
      rw [if_pos h56]
    rw [e] at hl ⊢
    have hl2 : code.length + (a.code cs code.length).length + 1 + (b.code cs (code.length + (a.code cs code.length).length + 1)).length ≤ 60000 := by
      rw [List.length_append, List.length_cons] at hl; omega
    rcases h56 with rfl | rfl
    · exact gexp_bin _ _ _ _ _ _ fun W hW => (gbin_and (h.below hW) 5 rfl y z _ _ hy hz hl2 _ _ _ _ hc hC).mono fun r w' hr => hr
    · exact gexp_bin _ _ _ _ _ _ fun W hW => (gbin_or (h.below hW) 6 rfl y z _ _ hy hz hl2 _ _ _ _ hc hC).mono fun r w' hr => hr
  · have e : (Ex.op o a b).code cs code.length = a.code cs code.length ++ b.code cs (code.length + (a.code cs code.length).length) ++ [⟨17, (o : Int), 0, 0⟩] := by
      conv => lhs; unfold Ex.code
      rw [if_neg h56]
    rw [e] at hl ⊢
    have hl2 : code.length + (a.code cs code.length).length + 1 + (b.code cs (code.length + (a.code cs code.length).length)).length ≤ 60000 := by
      rw [List.length_append, List.length_append, List.length_singleton] at hl; omega
    exact gexp_bin _ _ _ _ _ _ fun W hW => gbin_num (h.below hW) o (by omega) y z _ _ hy hz hl2 _ _ _ _ hc hC
theorem gen_par {w0 : World} {g : Nat} {F : Fx} {cd : Nat → List In} (x z : Nd) (hz : GenC w0 g F z cd) (h0 : x.f0 = 9) (h4 : x.f4 = [z]) : GenC w0 g F x cd := by
  obtain ⟨x0, x1, x2, x3, x4⟩ := x
  simp only at h0 h4
  subst h0 h4
  intro w code v A c hl h hc hC
  exact gexp_paren h z cd hz hl _ _ _ A c hc hC
theorem gen_ex {w0 : World} {g : Nat} {F : Fx} {cs : List Int} (hK : Kons w0 F cs) (e : Ex) : e.ok → (∀ n ∈ e.nums, (n : Int) ∈ cs) → ∀ x, Sh (treeOf e) x → GenC w0 g F x (e.code cs) := by
  induction e with
  | num n =>
    rintro _ hn ⟨x0, x1, x2, x3, x4⟩ ⟨h0, h1, h2, h4⟩ w code v A c hl h hc hC
    simp only at h0 h1 h2 h4 hC hc ⊢
    subst h0 h2 h4
    exact gexp_num h (by simp [Ex.code] at hl; omega) hK n (hn n (by simp [Ex.nums])) _ _ A _ c
  | op o a b iha ihb =>
    rintro ⟨ho, ha, hb⟩ hn x ⟨h0, _, _, z, h4, hz⟩
    obtain ⟨z0, z1, z2, y1, y2, z4, hy1, hy2⟩ := hz
    exact gen_par x z (gen_two ho a b y1 y2 z (iha ha (fun n h => hn n (by simp [Ex.nums, h])) y1 hy1) (ihb hb (fun n h => hn n (by simp [Ex.nums, h])) y2 hy2) z0 z1 z4) h0 h4
  | neg a ih =>
    rintro ha hn x ⟨h0, _, _, z, h4, hz⟩
    obtain ⟨z0, z1, z2, y, z4, hy⟩ := hz
    refine gen_par x z ?_ h0 h4
    obtain ⟨q0, q1, q2, q3, q4⟩ := z
    simp only at z0 z1 z4
    subst z0 z1 z4
    intro w code v A c hl h hc hC
    have e : (Ex.neg a).code cs code.length = a.code cs code.length ++ [⟨16, 3, 0, 0⟩] := by
      conv => lhs; unfold Ex.code
    rw [e] at hl ⊢
    have hl2 : code.length + (a.code cs code.length).length ≤ 60000 := by rw [List.length_append] at hl; omega
    exact gexp_minus h y _ (ih ha (fun n h => hn n (by simpa [Ex.nums] using h)) y hy) hl2 _ _ A c hc hC
end Go.Proofs.YtaoippnipcchmaaGreatDoor.PT
/- TopCode: the coder's each, open, stat (return). -/
namespace Go.Proofs.YtaoippnipcchmaaGreatDoor.PT
open Go.RowKit Go.Proofs.YtaoippnipcchmaaGreatDoorW.PrintWords Go.Proofs.YtaoippnipcchmaaGreatDoorW.PrintLast Go.Proofs.YtaoippnipcchmaaGreatDoorW.PrintMore
open Go.Proofs.YtaoippnipcchmaaGreatDoor.TP
set_option linter.unusedVariables false
set_option linter.unusedSimpArgs false

set_option maxHeartbeats 8000000 in
set_option maxRecDepth 100000 in
theorem each_one {w0 w : World} {g : Nat} {F : Fx} {code : List In} {v : Value} (h : Cd w0 g F code v w) (y : Nd) (cd : Nat → List In) (hy : GenC w0 g F y cd) (hl : code.length + (cd code.length).length ≤ 60000) (A : Option Addr) (c : Nat) (hc : 1 ≤ c) (hC : Kd.C k51 w0 A 1 [y]) :
    Calls Tryz.prog 71 #[.pointer (some ⟨g, 0, none⟩), .slice A 1 c] w (GdRes w0 g F (code ++ cd code.length) v w) := by
  have H := Lib.hid h
  have HL := Lib.hid (And.intro hl hy)
  have HC := Lib.hid (And.intro hc hC)
  have hu51 := Tryz.underlying51
  clear h hl hy hc hC
  go_enter Tryz.func71, Tryz.ntmps71
  go_wp2_with fail
  go_loopg [8] 1 (fun kq v8 wr => ∃ j : Nat, v8 = .int .i64 (j : Int) ∧ RowKit.Hid (kq + j = 1 ∧ ((j = 0 ∧ Cd w0 g F code v wr ∧ Adv g v v w wr) ∨ (j = 1 ∧ ∃ v', Cd w0 g F (code ++ cd code.length) v' wr ∧ Adv g v v' w wr))))
  case atStart => exact ⟨0, rfl, Lib.hid ⟨rfl, .inl ⟨rfl, H.out, Adv.of_below (Below.refl _ _)⟩⟩⟩
  case round =>
    obtain ⟨j, rfl, HJ⟩ := hrel
    rcases HJ.out.2 with ⟨hj, hK, hA⟩ | ⟨hj, v', hK, hA⟩
    · obtain ⟨k1, rfl⟩ : ∃ k1, gk = k1 + 1 := ⟨gk - 1, by have := HJ.out.1; omega⟩
      subst hj
      have hk1 := Lib.hid (show k1 = 0 by have := HJ.out.1; omega)
      have K := Lib.hid (And.intro hK hA)
      obtain ⟨ad, A4, c4, rfl, x0, x1, x2, x3, x4, l4, g4⟩ := kid_0 HC.out.2 hK.b0 (by omega) y rfl
      have G4 := Lib.hid (And.intro l4 g4)
      clear l4 g4 hK hA HJ
      go_wp2_with (first | ((with_reducible refine gate_dst (N := 5) rfl ?_); refine box_event ?hg (N := 5) ?hd (cs := #[.int .i64 0, .string (⟨#[]⟩ : ByteArray), .int .i64 0, .int .i64 0, .slice none 0 0]) (t := 51) ?hr ?_; (case hd => rfl); (case hg => rfl); (case hr => first | (go_simp; done) | (go_simp; rfl)); intro gb hg w9 hbox hb; have HB9 := Lib.hid (And.intro hg hb); have z0 : w9.cell? ⟨gb, 0, none⟩ = some (.int .i64 0) := (blk_cell hbox 0).trans rfl; have z1 : w9.cell? ⟨gb, 1, none⟩ = some (.string (⟨#[]⟩ : ByteArray)) := (blk_cell hbox 1).trans rfl; have z2 : w9.cell? ⟨gb, 2, none⟩ = some (.int .i64 0) := (blk_cell hbox 2).trans rfl; have z3 : w9.cell? ⟨gb, 3, none⟩ = some (.int .i64 0) := (blk_cell hbox 3).trans rfl; have z4 : w9.cell? ⟨gb, 4, none⟩ = some (.slice none 0 0) := (blk_cell hbox 4).trans rfl; have f0 := blk_frozen hbox 0; have f1 := blk_frozen hbox 1; have f2 := blk_frozen hbox 2; have f3 := blk_frozen hbox 3; have f4 := blk_frozen hbox 4; clear hbox hb hg))
      have hle : wr.heap.size ≤ gb := by have := HB9.out.1; omega
      have hbW := ((((HB9.out.2.setCell (p := ⟨gb, 0, none⟩) hle (.int .i64 y.f0)).setCell (p := ⟨gb, 1, none⟩) hle (.string y.f1)).setCell (p := ⟨gb, 2, none⟩) hle (.int .i64 y.f2)).setCell (p := ⟨gb, 3, none⟩) hle (.int .i64 y.f3)).setCell (p := ⟨gb, 4, none⟩) hle (.slice A4 y.f4.length c4)
      refine (HL.out.2 _ code v A4 c4 HL.out.1 (K.out.1.below hbW) G4.out.1 G4.out.2).mono ?_
      rintro r w5 ⟨rfl, v5, hK5, hA5⟩
      have K5 := Lib.hid (And.intro hK5 ((K.out.2.trans (Adv.of_below hbW)).trans hA5))
      clear hbW hK5 hA5 hle x0 x1 x2 x3 x4 z0 z1 z2 z3 z4 f0 f1 f2 f3 f4
      go_wp2_with fail
      go_roundg k1
      case measure => omega
      case rel => exact ⟨1, rfl, Lib.hid ⟨by have := hk1.out; omega, .inr ⟨rfl, v5, K5.out.1, K5.out.2⟩⟩⟩
    · subst hj
      have K := Lib.hid (And.intro hK hA)
      clear hK hA HJ
      go_wp2_with fail
      go_end0
      exact ⟨rfl, v', K.out.1, K.out.2⟩
set_option maxHeartbeats 8000000 in
set_option maxRecDepth 100000 in
theorem open_one {w0 w : World} {g : Nat} {F : Fx} {code code' : List In} {v : Value} (h : Cd w0 g F code v w) (y : Nd) (hk : y.f0 ≠ 8) (A : Option Addr) (c : Nat) (hC : Kd.C k51 w0 A 1 [y])
    (hE : Calls Tryz.prog 71 #[.pointer (some ⟨g, 0, none⟩), .slice A 1 c] w (GdRes w0 g F code' v w)) :
    Calls Tryz.prog 76 #[.pointer (some ⟨g, 0, none⟩), .slice A 1 c] w (GdRes w0 g F code' v w) := by
  have HQ := Lib.hid hE
  obtain ⟨ad, A4, c4, rfl, x0, x1, x2, x3, x4, l4, g4⟩ := kid_0 hC h.b0 (by omega) y rfl
  have hb : (y.f0 == 8) = false := beq_eq_false_iff_ne.2 hk
  clear hE l4 g4 h hC hk
  go_enter Tryz.func76, Tryz.ntmps76
  go_wp2_with fail
  refine HQ.out.mono ?_
  rintro r w2 ⟨rfl, v2, hK2, hA2⟩
  have K2 := Lib.hid (And.intro hK2 hA2)
  clear hK2 hA2 x0 x1 x2 x3 x4
  go_wp2_with fail
  go_end0
  exact ⟨rfl, v2, K2.out.1, K2.out.2⟩
theorem box_two (w : World) (g : Nat) (k : Int) (t : ByteArray) (n a : Int) (sl : Value) : ∃ w1, (w.alloc (.cells #[.pointer (some ⟨g, 0, none⟩)] 56)).alloc (.cells #[.int .i64 k, .string t, .int .i64 n, .int .i64 a, sl] 51) = w1 ∧ Below w.heap.size w w1 ∧ w1.heap[w.heap.size]? = some (.cells #[.pointer (some ⟨g, 0, none⟩)] 56 (0, 0)) ∧ w1.heap[w.heap.size + 1]? = some (.cells #[.int .i64 k, .string t, .int .i64 n, .int .i64 a, sl] 51 (0, 0)) :=
  ⟨_, rfl, ((Below.refl _ _).alloc (Nat.le_refl _) _).alloc (by simp) _, blk_alloc (heap_alloc_new _ _) _, by have := heap_alloc_new (w.alloc (.cells #[.pointer (some ⟨g, 0, none⟩)] 56)) (.cells #[.int .i64 k, .string t, .int .i64 n, .int .i64 a, sl] 51); simpa using this⟩
set_option maxHeartbeats 8000000 in
set_option maxRecDepth 100000 in
theorem stat_ret {w0 w : World} {g : Nat} {F : Fx} {code : List In} {v : Value} (h : Cd w0 g F code v w) (y : Nd) (hk : y.f0 ≠ 8) (cd : Nat → List In) (hy : GenC w0 g F y cd) (hl : code.length + 1 + (cd (code.length + 1)).length ≤ 60000) (t : ByteArray) (n a : Int) (A : Option Addr) (c : Nat) (hc : 1 ≤ c) (hC : Kd.C k51 w0 A 1 [y]) :
    Calls Tryz.prog 38 #[.pointer (some ⟨g, 0, none⟩), .agg #[.int .i64 30, .string t, .int .i64 n, .int .i64 a, .slice A 1 c]] w (GdRes w0 g F (code ++ [⟨22, 0, 0, 0⟩] ++ cd (code.length + 1) ++ [⟨25, 0, 0, 0⟩]) v w) := by
  obtain ⟨res, hres⟩ : ∃ res, code ++ [(⟨22, 0, 0, 0⟩ : In)] ++ cd (code.length + 1) ++ [⟨25, 0, 0, 0⟩] = res := ⟨_, rfl⟩
  rw [hres]
  have HR := Lib.hid hres
  have H := Lib.hid h
  have HL := Lib.hid (And.intro hl (And.intro hy hk))
  have HC := Lib.hid (And.intro hc hC)
  obtain ⟨w1, hw1, hb1, hp1, hn1⟩ := box_two w g 30 t n a (.slice A 1 c)
  have B1 := Lib.hid hb1
  have P1 := Lib.hid hp1
  have N1 := Lib.hid hn1
  have K1 := Lib.hid (H.out.below hb1)
  have HW := Lib.hid (⟨by have := blt H.out.bg; omega, by have := blt H.out.bg; omega, fun e => by have := H.out.own e; omega, fun e => by have := H.out.own e; omega⟩ : w.heap.size ≠ g ∧ w.heap.size + 1 ≠ g ∧ v.ownBlock ≠ some w.heap.size ∧ v.ownBlock ≠ some (w.heap.size + 1))
  clear h hl hy hk hc hC hb1 hp1 hn1 hres
  obtain ⟨n0, n1, n2, n3, n4⟩ := five_of N1.out
  have p0 : w1.cell? ⟨w.heap.size, 0, none⟩ = some (.pointer (some ⟨g, 0, none⟩)) := (blk_cell P1.out 0).trans rfl
  go_enter Tryz.func38, Tryz.ntmps38
  go_wp2_with fail
  refine (add_call K1.out (by have := HL.out.1; omega) 22 0 _ (opnd_none w1)).mono ?_
  rintro r w2 ⟨rfl, v2, hK2, hA2⟩
  have P2 := Lib.hid (hA2.blk P1.out HW.out.1 HW.out.2.2.1)
  have N2 := Lib.hid (hA2.blk N1.out HW.out.2.1 HW.out.2.2.2)
  have V2 := Lib.hid (And.intro (hA2.ne (blt P1.out) HW.out.2.2.1) (hA2.ne (blt N1.out) HW.out.2.2.2))
  have K2 := Lib.hid (And.intro hK2 ((Adv.of_below B1.out).trans hA2))
  clear hK2 hA2 n0 n1 n2 n3 n4 p0 P1 N1 hw1
  obtain ⟨n0, n1, n2, n3, n4⟩ := five_of N2.out
  have p0 : w2.cell? ⟨w.heap.size, 0, none⟩ = some (.pointer (some ⟨g, 0, none⟩)) := (blk_cell P2.out 0).trans rfl
  go_wp2_with fail
  have hl2 : (code ++ [(⟨22, 0, 0, 0⟩ : In)]).length = code.length + 1 := by simp
  refine (open_one K2.out.1 y HL.out.2.2 A c HC.out.2 (each_one K2.out.1 y cd HL.out.2.1 (by rw [hl2]; have := HL.out.1; omega) A c HC.out.1 HC.out.2)).mono ?_
  rintro r w3 ⟨rfl, v3, hK3, hA3⟩
  rw [hl2] at hK3
  have P3 := Lib.hid (hA3.blk P2.out HW.out.1 V2.out.1)
  have K3 := Lib.hid (And.intro hK3 (K2.out.2.trans hA3))
  clear hK3 hA3 n0 n1 n2 n3 n4 p0 P2 N2 hl2
  have p0 : w3.cell? ⟨w.heap.size, 0, none⟩ = some (.pointer (some ⟨g, 0, none⟩)) := (blk_cell P3.out 0).trans rfl
  go_wp2_with fail
  refine (add_call K3.out.1 (by have := HL.out.1; simp only [List.length_append, List.length_singleton]; omega) 25 0 _ (opnd_none w3)).mono ?_
  rintro r w4 ⟨rfl, v4, hK4, hA4⟩
  have K4 := Lib.hid (And.intro hK4 (K3.out.2.trans hA4))
  clear hK4 hA4 p0
  go_wp2_with fail
  go_end0
  have q := K4.out.1
  rw [HR.out] at q
  exact ⟨rfl, v4, q, K4.out.2⟩
end Go.Proofs.YtaoippnipcchmaaGreatDoor.PT
