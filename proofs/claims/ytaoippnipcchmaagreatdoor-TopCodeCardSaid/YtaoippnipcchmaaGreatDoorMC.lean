import Derived.Test.YtaoippnipcchmaaGreatDoorMB
/- TopCode: the parser's suffixed: parentheses. -/
namespace Go.Proofs.YtaoippnipcchmaaGreatDoor.PT
open Go.RowKit Go.Proofs.YtaoippnipcchmaaGreatDoorW.PrintWords Go.Proofs.YtaoippnipcchmaaGreatDoorW.PrintLast Go.Proofs.YtaoippnipcchmaaGreatDoorW.PrintMore
open Go.Proofs.YtaoippnipcchmaaGreatDoor.TP
set_option linter.unusedVariables false
set_option linter.unusedSimpArgs false

/-- Nothing hangs on at token j. -/
def Stop (T : List Tk) (j : Nat) : Prop := j < T.length ∧ isB (tk T j) ⟨#[91]⟩ = false ∧ isB (tk T j) ⟨#[46]⟩ = false ∧ isB (tk T j) ⟨#[40]⟩ = false
theorem field_at (x0 : Int) (x1 : ByteArray) (x2 x3 : Int) (w : World) : (Instr.field 88 (.agg #[.int .i64 x0, .string x1, .int .i64 x2, .int .i64 x3]) 3).run Tryz.prog w = .ok (.int .i64 x3) w := by kernel_rfl
set_option maxHeartbeats 8000000 in
set_option maxRecDepth 100000 in
theorem suffixed_paren {T : List Tk} {g a c i j : Nat} {t : Tr} {w : World} (hP : Par g a c T i w) (hi : i < T.length) (hm : Mt tOpen (tk T i))
    (hex : ∀ w, Par g a c T (i + 1) w → Calls Tryz.prog 55 #[.pointer (some ⟨g, 0, none⟩), .int .i64 0] w (Res T g a c t j w)) (hj : j < T.length) (hmj : Mt tClose (tk T j)) (hst : Stop T (j + 1)) :
    Calls Tryz.prog 97 #[.pointer (some ⟨g, 0, none⟩)] w (Res T g a c (.one 9 [] t) (j + 1) w) := by
  have HP := Lib.hid hP
  have HI := Lib.hid (And.intro hi (show isB (tk T i) ⟨#[40]⟩ = true from (isB_mt hm [40]).trans rfl))
  have HJ := Lib.hid (And.intro hj (show isB (tk T j) ⟨#[41]⟩ = true from (isB_mt hmj [41]).trans rfl))
  have HS := Lib.hid hst
  have HX := Lib.hid hex
  have hlt := Lib.hid (And.intro hP.lt hP.alt)
  have hfl := field_at
  clear hP hi hm hex hj hmj hst
  go_enter Tryz.func97, Tryz.ntmps97
  go_wp2_with fail
  obtain ⟨w1, hw1, hb1, hn1, hs1⟩ : ∃ w1, w.alloc (.cells #[.int .i64 0, .string (⟨#[]⟩ : ByteArray), .int .i64 0, .int .i64 0, .slice none 0 0] 51) = w1 ∧ Below w.heap.size w w1 ∧ w1.heap[w.heap.size]? = some (.cells #[.int .i64 0, .string (⟨#[]⟩ : ByteArray), .int .i64 0, .int .i64 0, .slice none 0 0] 51 (0, 0)) ∧ w1.heap.size = w.heap.size + 1 :=
    ⟨_, rfl, (Below.refl _ _).alloc (Nat.le_refl _) _, heap_alloc_new _ _, by simp⟩
  rw [hw1]
  refine (now_call (HP.out.below hb1) HI.out.1).mono ?_
  rintro e w2 ⟨rfl, hb2⟩
  unfold tv
  have P2 := Lib.hid ((HP.out.below hb1).below hb2)
  have N2 := Lib.hid ((hb2.block w.heap.size (by omega)).trans hn1)
  have B2 := Lib.hid (hb1.trans (hb2.mono (by omega)))
  have s2 : w.heap.size < w2.heap.size := by have := hb2.size; omega
  clear hw1 hb1 hn1 hs1 hb2
  go_wp2_with fail
  obtain ⟨w3, hw3, hM3⟩ : ∃ w3, w2.alloc (.cells #[.int .i64 0, .string (⟨#[]⟩ : ByteArray), .int .i64 0, .int .i64 0, .slice none 0 0] 51) = w3 ∧ Mid T g a c w w2.heap.size i z51 none 0 w3 :=
    ⟨_, rfl, P2.out.below (below_alloc (Below.refl _ _) _), ((below_alloc (Below.refl _ _) _).block _ (Array.getElem?_eq_some_iff.1 N2.out).1).trans N2.out, heap_alloc_new _ _, Kd.R_nil _ _ _ _ _, (Fr.of_below B2.out).trans (Fr.of_below (below_alloc (Below.refl _ _) _)), by have := hlt.out; omega⟩
  rw [hw3]
  have M3 := Lib.hid hM3
  clear hw3 hM3 P2 N2 B2
  refine (got_yes M3.out.par HI.out.1 ⟨#[40]⟩ HI.out.2).mono ?_
  rintro e w4 ⟨rfl, hP4, hF4⟩
  have M4 := Lib.hid (M3.out.par' hP4 hF4)
  clear M3 hP4 hF4
  go_wp2_with fail
  refine (HX.out w4 M4.out.par).mono ?_
  rintro e w5 ⟨v5, y, rfl, hN5, hS5, hP5, hF5⟩
  obtain ⟨A5, c5, rfl, hR5⟩ := hN5
  have M5 := Lib.hid (M4.out.par' hP5 hF5)
  have R5 := Lib.hid (And.intro (Kd.R_mono (Kd.R_lower (Kd.R_bound hR5) (show w.heap.size + 1 ≤ w4.heap.size by have := M4.out.blt; omega)) (fun k hk => by have := hk.2.1; have := M4.out.blt; omega) : RK w5 (w.heap.size + 1) (fun k => k ≠ w2.heap.size) (.slice A5 y.f4.length c5) y.f4) hS5)
  clear hR5 hS5 hP5 hF5 M4
  have bx := Lib.hid (blk_alloc M5.out.box (.cells #[.int .i64 y.f0, .string y.f1, .int .i64 y.f2, .int .i64 y.f3, .slice A5 y.f4.length c5] 51))
  obtain ⟨q0, q1, q2, q3, q4⟩ := five_of bx.out
  have v0 := blk_frozen bx.out 0
  have v1 := blk_frozen bx.out 1
  have v2 := blk_frozen bx.out 2
  have v3 := blk_frozen bx.out 3
  have v4 := blk_frozen bx.out 4
  have M6 := Lib.hid ((M5.out.below (below_alloc (Below.refl _ _) (.cells #[.int .i64 y.f0, .string y.f1, .int .i64 y.f2, .int .i64 y.f3, .slice A5 y.f4.length c5] 51))).five (z := ⟨9, ⟨#[]⟩, 0, (tk T i).f3, [y]⟩) (Az := some ⟨w5.heap.size, 0, none⟩) (cz := 1) (row1 (by have := M5.out.blt; omega) (by have := M5.out.blt; omega) y R5.out.1))
  clear M5
  go_wp2_with fail
  clear q0 q1 q2 q3 q4 v0 v1 v2 v3 v4 bx
  refine (want_call M6.out.par HJ.out.1 ⟨#[41]⟩ HJ.out.2).mono ?_
  rintro e w8 ⟨rfl, hP8, hF8⟩
  have M8 := Lib.hid (M6.out.par' hP8 hF8)
  clear M6 hP8 hF8
  go_wp2_with fail
  refine wp_loop_once ?_
  go_wp2_with fail
  refine (got_no M8.out.par HS.out.1 ⟨#[91]⟩ HS.out.2.1).mono ?_
  rintro e w9 ⟨rfl, hb9⟩
  have M9 := Lib.hid (M8.out.below hb9)
  clear M8 hb9
  go_wp2_with fail
  refine (got_no M9.out.par HS.out.1 ⟨#[46]⟩ HS.out.2.2.1).mono ?_
  rintro e w10 ⟨rfl, hb10⟩
  have M10 := Lib.hid (M9.out.below hb10)
  clear M9 hb10
  go_wp2_with fail
  refine (got_no M10.out.par HS.out.1 ⟨#[40]⟩ HS.out.2.2.2).mono ?_
  rintro e w11 ⟨rfl, hb11⟩
  have M11 := Lib.hid (M10.out.below hb11)
  clear M10 hb11
  obtain ⟨m0, m1, m2, m3, m4⟩ := M11.out.cells
  simp only [List.length_cons, List.length_nil, Nat.zero_add] at m4
  obtain ⟨n0, n1, n2, n3, n4⟩ := five_of M11.out.res
  have u0 := blk_frozen M11.out.res 0
  have u1 := blk_frozen M11.out.res 1
  have u2 := blk_frozen M11.out.res 2
  have u3 := blk_frozen M11.out.res 3
  have u4 := blk_frozen M11.out.res 4
  go_wp2_with fail
  have hg := five_set (.int .i64 9) (.string (⟨#[]⟩ : ByteArray)) (.int .i64 0) (.int .i64 (tk T i).f3) (.slice (some ⟨w5.heap.size, 0, none⟩) 1 1) M11.out.res
  clear n0 n1 n2 n3 n4 u0 u1 u2 u3 u4 m0 m1 m2 m3 m4
  exact bodyPost_ret (results_cell_row rfl _ _ w.heap.size 51 _ (0, 0) _ rfl hg Tryz.underlying51 rfl (by kernel_rfl)) rfl (M11.out.res_ ⟨rfl, rfl, rfl, y, rfl, R5.out.2⟩)
end Go.Proofs.YtaoippnipcchmaaGreatDoor.PT
/- TopCode: the parser's operand: parentheses, a minus. -/
namespace Go.Proofs.YtaoippnipcchmaaGreatDoor.PT
open Go.RowKit Go.Proofs.YtaoippnipcchmaaGreatDoorW.PrintWords Go.Proofs.YtaoippnipcchmaaGreatDoorW.PrintLast Go.Proofs.YtaoippnipcchmaaGreatDoorW.PrintMore
open Go.Proofs.YtaoippnipcchmaaGreatDoor.TP
set_option linter.unusedVariables false
set_option linter.unusedSimpArgs false

/-- In the midst: the result's box, and a token's box at b3. -/
structure Mi3 (T : List Tk) (g a c : Nat) (w : World) (b3 : Nat) (t : Tk) (p : Nat) (wr : World) : Prop where
  par : Par g a c T p wr
  res : wr.heap[w.heap.size]? = some (.cells #[.int .i64 0, .string (⟨#[]⟩ : ByteArray), .int .i64 0, .int .i64 0, .slice none 0 0] 51 (0, 0))
  box : wr.heap[b3]? = some (.cells #[.int .i64 t.f0, .string t.f1, .int .i64 t.f2, .int .i64 t.f3] 88 (0, 0))
  fr : Fr (fun k => k = g) w wr
  old : g < w.heap.size ∧ a < w.heap.size ∧ w.heap.size < b3
section
variable {T : List Tk} {g a c b3 p : Nat} {t : Tk} {w wr w' : World}
theorem Mi3.below (h : Mi3 T g a c w b3 t p wr) (hb : Below wr.heap.size wr w') : Mi3 T g a c w b3 t p w' :=
  ⟨h.par.below hb, (hb.block _ (Array.getElem?_eq_some_iff.1 h.res).1).trans h.res, (hb.block _ (Array.getElem?_eq_some_iff.1 h.box).1).trans h.box, h.fr.trans (Fr.of_below hb), h.old⟩
theorem Mi3.par' (h : Mi3 T g a c w b3 t p wr) {q : Nat} (hP : Par g a c T q w') (hF : Fr (fun k => k = g) wr w') : Mi3 T g a c w b3 t q w' :=
  ⟨hP, (hF.block _ (Array.getElem?_eq_some_iff.1 h.res).1 (fun e => by have := h.old; omega)).trans h.res, (hF.block _ (Array.getElem?_eq_some_iff.1 h.box).1 (fun e => by have := h.old; omega)).trans h.box, h.fr.trans hF, h.old⟩
theorem Mi3.blt (h : Mi3 T g a c w b3 t p wr) : b3 < wr.heap.size := (Array.getElem?_eq_some_iff.1 h.box).1
/-- The end: a node goes into the result's box. -/
theorem Mi3.fin {s : Tr} {y : Nd} {A : Option Addr} {cy : Nat} (h : Mi3 T g a c w b3 t p wr) (hr : RK wr (w.heap.size + 1) (fun _ => True) (.slice A y.f4.length cy) y.f4) (hs : Sh s y) :
    Res T g a c s p w (.returned (.agg #[.int .i64 y.f0, .string y.f1, .int .i64 y.f2, .int .i64 y.f3, .slice A y.f4.length cy])) (((((wr.setCell ⟨w.heap.size, 0, none⟩ (.int .i64 y.f0)).setCell ⟨w.heap.size, 1, none⟩ (.string y.f1)).setCell ⟨w.heap.size, 2, none⟩ (.int .i64 y.f2)).setCell ⟨w.heap.size, 3, none⟩ (.int .i64 y.f3)).setCell ⟨w.heap.size, 4, none⟩ (.slice A y.f4.length cy)) := by
  have ho := h.old
  exact ⟨_, y, rfl, ⟨A, cy, rfl, Kd.R_lower (RK.fr hr (five_fr _ _ _ _ _) (fun k hk => .inl (by omega))) (by omega)⟩, hs, h.par.fr (five_fr _ _ _ _ _) (fun k hk => by subst hk; omega), h.fr.new (five_fr _ _ _ _ _) (fun k hk => .inr (by omega))⟩
end
set_option maxHeartbeats 8000000 in
set_option maxRecDepth 100000 in
theorem operand_paren {T : List Tk} {g a c i j : Nat} {t : Tr} {w : World} (hP : Par g a c T i w) (hi : i < T.length) (hm : Mt tOpen (tk T i))
    (hsx : ∀ w, Par g a c T i w → Calls Tryz.prog 97 #[.pointer (some ⟨g, 0, none⟩)] w (Res T g a c t j w)) :
    Calls Tryz.prog 95 #[.pointer (some ⟨g, 0, none⟩)] w (Res T g a c t j w) := by
  have HP := Lib.hid hP
  have HI := Lib.hid hi
  have HX := Lib.hid hsx
  have q0 : (tk T i).f0 = 5 := hm.1
  have q1 : ((tk T i).f0 == 3) = false := by rw [q0]; rfl
  have q2 : ((tk T i).f0 == 4) = false := by rw [q0]; rfl
  have HB := Lib.hid (fun s (hs : (([40] : List UInt8) == s) = false) => (isB_mt hm s).trans (by show ((tOpen.kind == 2 || tOpen.kind == 5) && (([40] : List UInt8) == s)) = false; rw [hs]; rfl) : ∀ s : List UInt8, (([40] : List UInt8) == s) = false → isB (tk T i) (bs s) = false)
  have hlt := Lib.hid (And.intro hP.lt hP.alt)
  clear hP hi hm hsx q0
  go_enter Tryz.func95, Tryz.ntmps95
  go_wp2_with fail
  obtain ⟨w1, hw1, hb1, hn1, hs1⟩ : ∃ w1, w.alloc (.cells #[.int .i64 0, .string (⟨#[]⟩ : ByteArray), .int .i64 0, .int .i64 0, .slice none 0 0] 51) = w1 ∧ Below w.heap.size w w1 ∧ w1.heap[w.heap.size]? = some (.cells #[.int .i64 0, .string (⟨#[]⟩ : ByteArray), .int .i64 0, .int .i64 0, .slice none 0 0] 51 (0, 0)) ∧ w1.heap.size = w.heap.size + 1 :=
    ⟨_, rfl, (Below.refl _ _).alloc (Nat.le_refl _) _, heap_alloc_new _ _, by simp⟩
  rw [hw1]
  refine (now_call (HP.out.below hb1) HI.out).mono ?_
  rintro e w2 ⟨rfl, hb2⟩
  unfold tv
  have P2 := Lib.hid ((HP.out.below hb1).below hb2)
  have N2 := Lib.hid ((hb2.block w.heap.size (by omega)).trans hn1)
  have B2 := Lib.hid (hb1.trans (hb2.mono (by omega)))
  have s2 : w.heap.size < w2.heap.size := by have := hb2.size; omega
  clear hw1 hb1 hn1 hs1 hb2
  go_wp2_with fail
  obtain ⟨w3, hw3, hM3⟩ : ∃ w3, (w2.alloc (.cells #[.int .i64 (tk T i).f0, .string (tk T i).f1, .int .i64 (tk T i).f2, .int .i64 (tk T i).f3] 88)).alloc (.cells #[.int .i64 0, .string (⟨#[]⟩ : ByteArray), .int .i64 0, .int .i64 (tk T i).f3, .slice none 0 0] 51) = w3 ∧ Mi3 T g a c w w2.heap.size (tk T i) i w3 := by
    have h0 : Mi3 T g a c w w2.heap.size (tk T i) i (w2.alloc (.cells #[.int .i64 (tk T i).f0, .string (tk T i).f1, .int .i64 (tk T i).f2, .int .i64 (tk T i).f3] 88)) := ⟨P2.out.below (below_alloc (Below.refl _ _) _), ((below_alloc (Below.refl _ _) _).block _ (Array.getElem?_eq_some_iff.1 N2.out).1).trans N2.out, heap_alloc_new _ _, (Fr.of_below B2.out).trans (Fr.of_below (below_alloc (Below.refl _ _) _)), by have := hlt.out; omega⟩
    exact ⟨_, rfl, h0.below (below_alloc (Below.refl _ _) _)⟩
  rw [hw3]
  have M3 := Lib.hid hM3
  clear hw3 hM3 P2 N2 B2
  have hx := is_call M3.out.par HI.out ⟨#[110, 105, 108]⟩
  rw [show isB (tk T i) ⟨#[110, 105, 108]⟩ = false from HB.out [110, 105, 108] rfl] at hx
  refine hx.mono ?_
  rintro e w4 ⟨rfl, hb4⟩
  have M4 := Lib.hid (M3.out.below hb4)
  clear M3 hb4 hx
  go_wp2_with fail
  have hx := is_call M4.out.par HI.out ⟨#[116, 114, 117, 101]⟩
  rw [show isB (tk T i) ⟨#[116, 114, 117, 101]⟩ = false from HB.out [116, 114, 117, 101] rfl] at hx
  refine hx.mono ?_
  rintro e w5 ⟨rfl, hb5⟩
  have M5 := Lib.hid (M4.out.below hb5)
  clear M4 hb5 hx
  go_wp2_with fail
  have hx := is_call M5.out.par HI.out ⟨#[102, 97, 108, 115, 101]⟩
  rw [show isB (tk T i) ⟨#[102, 97, 108, 115, 101]⟩ = false from HB.out [102, 97, 108, 115, 101] rfl] at hx
  refine hx.mono ?_
  rintro e w6 ⟨rfl, hb6⟩
  have M6 := Lib.hid (M5.out.below hb6)
  clear M5 hb6 hx
  go_wp2_with fail
  refine (got_no M6.out.par HI.out ⟨#[110, 111, 116]⟩ (HB.out [110, 111, 116] rfl)).mono ?_
  rintro e w7 ⟨rfl, hb7⟩
  have M7 := Lib.hid (M6.out.below hb7)
  clear M6 hb7
  go_wp2_with fail
  refine (got_no M7.out.par HI.out ⟨#[35]⟩ (HB.out [35] rfl)).mono ?_
  rintro e w8 ⟨rfl, hb8⟩
  have M8 := Lib.hid (M7.out.below hb8)
  clear M7 hb8
  go_wp2_with fail
  refine (got_no M8.out.par HI.out ⟨#[45]⟩ (HB.out [45] rfl)).mono ?_
  rintro e w9 ⟨rfl, hb9⟩
  have M9 := Lib.hid (M8.out.below hb9)
  clear M8 hb9
  go_wp2_with fail
  refine (got_no M9.out.par HI.out ⟨#[123]⟩ (HB.out [123] rfl)).mono ?_
  rintro e w10 ⟨rfl, hb10⟩
  have M10 := Lib.hid (M9.out.below hb10)
  clear M9 hb10
  go_wp2_with fail
  refine (HX.out w10 M10.out.par).mono ?_
  rintro e w11 ⟨v, y, rfl, hN, hS, hP11, hF11⟩
  obtain ⟨A, cy, rfl, hR⟩ := hN
  have M11 := Lib.hid (M10.out.par' hP11 hF11)
  have R11 := Lib.hid (And.intro (Kd.R_lower hR (show w.heap.size + 1 ≤ w10.heap.size by have := M10.out.blt; have := M10.out.old; omega)) hS)
  clear hR hS hP11 hF11 M10
  obtain ⟨n0, n1, n2, n3, n4⟩ := five_of M11.out.res
  have u0 := blk_frozen M11.out.res 0
  have u1 := blk_frozen M11.out.res 1
  have u2 := blk_frozen M11.out.res 2
  have u3 := blk_frozen M11.out.res 3
  have u4 := blk_frozen M11.out.res 4
  go_wp2_with fail
  have hg := five_set (.int .i64 y.f0) (.string y.f1) (.int .i64 y.f2) (.int .i64 y.f3) (.slice A y.f4.length cy) M11.out.res
  clear n0 n1 n2 n3 n4 u0 u1 u2 u3 u4
  exact bodyPost_ret (results_cell_row rfl _ _ w.heap.size 51 _ (0, 0) _ rfl hg Tryz.underlying51 rfl (by kernel_rfl)) rfl (M11.out.fin R11.out.1 R11.out.2)
end Go.Proofs.YtaoippnipcchmaaGreatDoor.PT
/- TopCode: the parser's exps (one expression). -/
namespace Go.Proofs.YtaoippnipcchmaaGreatDoor.PT
open Go.RowKit Go.Proofs.YtaoippnipcchmaaGreatDoorW.PrintWords Go.Proofs.YtaoippnipcchmaaGreatDoorW.PrintLast Go.Proofs.YtaoippnipcchmaaGreatDoorW.PrintMore
open Go.Proofs.YtaoippnipcchmaaGreatDoor.TP
set_option linter.unusedVariables false
set_option linter.unusedSimpArgs false

set_option maxHeartbeats 4000000 in
set_option maxRecDepth 100000 in
theorem exps_one {T : List Tk} {g a c i j : Nat} {t : Tr} {w : World} (hP : Par g a c T i w)
    (hex : Calls Tryz.prog 55 #[.pointer (some ⟨g, 0, none⟩), .int .i64 0] w (Res T g a c t j w)) (hj : j < T.length) (hc : isB (tk T j) ⟨#[44]⟩ = false) :
    Calls Tryz.prog 34 #[.pointer (some ⟨g, 0, none⟩)] w fun r w' => ∃ b y, r = .returned (.slice (some ⟨b, 0, none⟩) 1 1) ∧ RK w' w.heap.size (fun _ => True) (.slice (some ⟨b, 0, none⟩) 1 1) [y] ∧ Sh t y ∧ Par g a c T j w' ∧ Fr (fun k => k = g) w w' := by
  have HJ := Lib.hid (And.intro hj hc)
  have HP := Lib.hid hP
  clear hP hj hc
  go_enter Tryz.func34, Tryz.ntmps34
  go_wp2_with fail
  refine hex.mono ?_
  rintro e w1 ⟨v, y, rfl, hN, hS, hP1, hF1⟩
  obtain ⟨A, cy, rfl, hR⟩ := hN
  have hl : w.heap.size ≤ w1.heap.size := hF1.size
  have hR2 := row1 hl trivial y hR
  obtain ⟨w2, hw2, hR3, hP3, hF3⟩ : ∃ w2, w1.alloc (.cells #[.int .i64 y.f0, .string y.f1, .int .i64 y.f2, .int .i64 y.f3, .slice A y.f4.length cy] 51) = w2 ∧ RK w2 w.heap.size (fun _ => True) (.slice (some ⟨w1.heap.size, 0, none⟩) 1 1) [y] ∧ Par g a c T j w2 ∧ Fr (fun k => k = g) w w2 :=
    ⟨_, rfl, hR2, hP1.below (below_alloc (Below.refl _ _) _), hF1.trans (Fr.of_below (below_alloc (Below.refl _ _) _))⟩
  have Q := Lib.hid (And.intro hR3 (And.intro hS (And.intro hP3 hF3)))
  clear hex hR hS hP1 hF1 hl hR2 hR3 hP3 hF3
  go_wp2_with fail
  clear hw2
  refine wp_loop_once ?_
  go_wp2_with fail
  refine (got_no Q.out.2.2.1 HJ.out.1 ⟨#[44]⟩ HJ.out.2).mono ?_
  rintro e w3 ⟨rfl, hb3⟩
  have Q3 := Lib.hid (And.intro (Kd.R_below Q.out.1 hb3) (And.intro Q.out.2.1 (And.intro (Q.out.2.2.1.below hb3) (Q.out.2.2.2.trans (Fr.of_below hb3)))))
  clear Q hb3
  go_wp2_with fail
  go_ret
  exact ⟨_, y, rfl, Q3.out⟩
end Go.Proofs.YtaoippnipcchmaaGreatDoor.PT
/- TopCode: the parser's operand: a minus. -/
namespace Go.Proofs.YtaoippnipcchmaaGreatDoor.PT
open Go.RowKit Go.Proofs.YtaoippnipcchmaaGreatDoorW.PrintWords Go.Proofs.YtaoippnipcchmaaGreatDoorW.PrintLast Go.Proofs.YtaoippnipcchmaaGreatDoorW.PrintMore
open Go.Proofs.YtaoippnipcchmaaGreatDoor.TP
set_option linter.unusedVariables false
set_option linter.unusedSimpArgs false

set_option maxHeartbeats 8000000 in
set_option maxRecDepth 100000 in
theorem operand_minus {T : List Tk} {g a c i j : Nat} {t : Tr} {w : World} (hP : Par g a c T i w) (hi : i < T.length) (hm : Mt tMinus (tk T i))
    (hex : ∀ w, Par g a c T (i + 1) w → Calls Tryz.prog 55 #[.pointer (some ⟨g, 0, none⟩), .int .i64 7] w (Res T g a c t j w)) :
    Calls Tryz.prog 95 #[.pointer (some ⟨g, 0, none⟩)] w (Res T g a c (.one 10 [45] t) j w) := by
  have HP := Lib.hid hP
  have HI := Lib.hid hi
  have HX := Lib.hid hex
  have HT := Lib.hid hm.2.1
  have HY := Lib.hid (show isB (tk T i) ⟨#[45]⟩ = true from (isB_mt hm [45]).trans rfl)
  have q0 : (tk T i).f0 = 5 := hm.1
  have q1 : ((tk T i).f0 == 3) = false := by rw [q0]; rfl
  have q2 : ((tk T i).f0 == 4) = false := by rw [q0]; rfl
  have HB := Lib.hid (fun s (hs : (([45] : List UInt8) == s) = false) => (isB_mt hm s).trans (by show ((tMinus.kind == 2 || tMinus.kind == 5) && (([45] : List UInt8) == s)) = false; rw [hs]; rfl) : ∀ s : List UInt8, (([45] : List UInt8) == s) = false → isB (tk T i) (bs s) = false)
  have hlt := Lib.hid (And.intro hP.lt hP.alt)
  clear hP hi hm hex q0
  go_enter Tryz.func95, Tryz.ntmps95
  go_wp2_with fail
  obtain ⟨w1, hw1, hb1, hn1, hs1⟩ : ∃ w1, w.alloc (.cells #[.int .i64 0, .string (⟨#[]⟩ : ByteArray), .int .i64 0, .int .i64 0, .slice none 0 0] 51) = w1 ∧ Below w.heap.size w w1 ∧ w1.heap[w.heap.size]? = some (.cells #[.int .i64 0, .string (⟨#[]⟩ : ByteArray), .int .i64 0, .int .i64 0, .slice none 0 0] 51 (0, 0)) ∧ w1.heap.size = w.heap.size + 1 :=
    ⟨_, rfl, (Below.refl _ _).alloc (Nat.le_refl _) _, heap_alloc_new _ _, by simp⟩
  rw [hw1]
  refine (now_call (HP.out.below hb1) HI.out).mono ?_
  rintro e w2 ⟨rfl, hb2⟩
  unfold tv
  have P2 := Lib.hid ((HP.out.below hb1).below hb2)
  have N2 := Lib.hid ((hb2.block w.heap.size (by omega)).trans hn1)
  have B2 := Lib.hid (hb1.trans (hb2.mono (by omega)))
  have s2 : w.heap.size < w2.heap.size := by have := hb2.size; omega
  clear hw1 hb1 hn1 hs1 hb2
  go_wp2_with fail
  obtain ⟨w3, hw3, hM3⟩ : ∃ w3, (w2.alloc (.cells #[.int .i64 (tk T i).f0, .string (tk T i).f1, .int .i64 (tk T i).f2, .int .i64 (tk T i).f3] 88)).alloc (.cells #[.int .i64 0, .string (⟨#[]⟩ : ByteArray), .int .i64 0, .int .i64 (tk T i).f3, .slice none 0 0] 51) = w3 ∧ Mi3 T g a c w w2.heap.size (tk T i) i w3 := by
    have h0 : Mi3 T g a c w w2.heap.size (tk T i) i (w2.alloc (.cells #[.int .i64 (tk T i).f0, .string (tk T i).f1, .int .i64 (tk T i).f2, .int .i64 (tk T i).f3] 88)) := ⟨P2.out.below (below_alloc (Below.refl _ _) _), ((below_alloc (Below.refl _ _) _).block _ (Array.getElem?_eq_some_iff.1 N2.out).1).trans N2.out, heap_alloc_new _ _, (Fr.of_below B2.out).trans (Fr.of_below (below_alloc (Below.refl _ _) _)), by have := hlt.out; omega⟩
    exact ⟨_, rfl, h0.below (below_alloc (Below.refl _ _) _)⟩
  rw [hw3]
  have M3 := Lib.hid hM3
  clear hw3 hM3 P2 N2 B2
  have hx := is_call M3.out.par HI.out ⟨#[110, 105, 108]⟩
  rw [show isB (tk T i) ⟨#[110, 105, 108]⟩ = false from HB.out [110, 105, 108] rfl] at hx
  refine hx.mono ?_
  rintro e w4 ⟨rfl, hb4⟩
  have M4 := Lib.hid (M3.out.below hb4)
  clear M3 hb4 hx
  go_wp2_with fail
  have hx := is_call M4.out.par HI.out ⟨#[116, 114, 117, 101]⟩
  rw [show isB (tk T i) ⟨#[116, 114, 117, 101]⟩ = false from HB.out [116, 114, 117, 101] rfl] at hx
  refine hx.mono ?_
  rintro e w5 ⟨rfl, hb5⟩
  have M5 := Lib.hid (M4.out.below hb5)
  clear M4 hb5 hx
  go_wp2_with fail
  have hx := is_call M5.out.par HI.out ⟨#[102, 97, 108, 115, 101]⟩
  rw [show isB (tk T i) ⟨#[102, 97, 108, 115, 101]⟩ = false from HB.out [102, 97, 108, 115, 101] rfl] at hx
  refine hx.mono ?_
  rintro e w6 ⟨rfl, hb6⟩
  have M6 := Lib.hid (M5.out.below hb6)
  clear M5 hb6 hx
  go_wp2_with fail
  refine (got_no M6.out.par HI.out ⟨#[110, 111, 116]⟩ (HB.out [110, 111, 116] rfl)).mono ?_
  rintro e w7 ⟨rfl, hb7⟩
  have M7 := Lib.hid (M6.out.below hb7)
  clear M6 hb7
  go_wp2_with fail
  refine (got_no M7.out.par HI.out ⟨#[35]⟩ (HB.out [35] rfl)).mono ?_
  rintro e w8 ⟨rfl, hb8⟩
  have M8 := Lib.hid (M7.out.below hb8)
  clear M7 hb8
  go_wp2_with fail
  refine (got_yes M8.out.par HI.out ⟨#[45]⟩ HY.out).mono ?_
  rintro e w9 ⟨rfl, hP9, hF9⟩
  have M9 := Lib.hid ((M8.out.par' hP9 hF9).below (Below.refl _ _).drew)
  clear M8 hP9 hF9
  obtain ⟨t0, t1, t2, t3⟩ := four_of M9.out.box
  have hmx : Tryz.prog.follows .mixedOrders = true := by kernel_rfl
  have ne1 : w2.heap.size ≠ w.heap.size := by omega
  go_wp2_with fail
  go_region_held3 (fun w' => w'.cell? ⟨w2.heap.size, 1, none⟩ = some (.string (tk T i).f1) ∧ w'.cell? ⟨w2.heap.size, 3, none⟩ = some (.int .i64 (tk T i).f3))
    (first | with_reducible exact ⟨t1, t3⟩ | with_reducible exact ⟨t5, t7⟩ | with_reducible exact ⟨s1, s3⟩ | with_reducible exact ⟨z1, z3⟩ | go_keep)
    ((first | (go_at_call 55; refine (HX.out _ M9.out.par).mono ?_; rintro e w11 ⟨v, y, rfl, hN, hS, hP11, hF11⟩; obtain ⟨A, cy, rfl, hR⟩ := hN; have M11 := Lib.hid (M9.out.par' hP11 hF11); have R11 := Lib.hid (And.intro (Kd.R_lower hR (show w.heap.size + 1 ≤ w9.drew.heap.size by have := M9.out.blt; have := M9.out.old; omega)) hS); clear hR hS hP11 hF11; obtain ⟨t4, t5, t6, t7⟩ := four_of M11.out.box; have bx := Lib.hid (M11.out.below (below_alloc (Below.refl _ _) (.cells #[.int .i64 y.f0, .string y.f1, .int .i64 y.f2, .int .i64 y.f3, .slice A y.f4.length cy] 51))); obtain ⟨s0, s1, s2, s3⟩ := four_of bx.out.box; obtain ⟨n0, n1, n2, n3, n4⟩ := five_of bx.out.res; have u0 := blk_frozen bx.out.res 0; have u1 := blk_frozen bx.out.res 1; have u2 := blk_frozen bx.out.res 2; have u3 := blk_frozen bx.out.res 3; have u4 := blk_frozen bx.out.res 4; have z1 := cell_five (u0 := .int .i64 10) (u1 := .string (tk T i).f1) (u2 := .int .i64 0) (u3 := .int .i64 (tk T i).f3) (u4 := .slice (some ⟨w11.heap.size, 0, none⟩) 1 1) ne1 s1; have z3 := cell_five (u0 := .int .i64 10) (u1 := .string (tk T i).f1) (u2 := .int .i64 0) (u3 := .int .i64 (tk T i).f3) (u4 := .slice (some ⟨w11.heap.size, 0, none⟩) 1 1) ne1 s3)))
  all_goals
    have hg := five_set (.int .i64 10) (.string (tk T i).f1) (.int .i64 0) (.int .i64 (tk T i).f3) (.slice (some ⟨w11.heap.size, 0, none⟩) 1 1) bx.out.res
    clear n0 n1 n2 n3 n4 u0 u1 u2 u3 u4 s0 s1 s2 s3 z1 z3 t4 t5 t6 t7
    go_wp2_with fail
    exact bodyPost_ret (results_cell_row rfl _ _ w.heap.size 51 _ (0, 0) _ rfl hg Tryz.underlying51 rfl (by kernel_rfl)) rfl (bx.out.fin (y := ⟨10, (tk T i).f1, 0, (tk T i).f3, [y]⟩) (A := some ⟨w11.heap.size, 0, none⟩) (cy := 1) (row1 (by have := M11.out.blt; have := M11.out.old; omega) trivial y R11.out.1) ⟨rfl, HT.out, rfl, y, rfl, R11.out.2⟩)
end Go.Proofs.YtaoippnipcchmaaGreatDoor.PT
/- TopCode: the parser's block: return, one expression, the end. -/
namespace Go.Proofs.YtaoippnipcchmaaGreatDoor.PT
open Go.RowKit Go.Proofs.YtaoippnipcchmaaGreatDoorW.PrintWords Go.Proofs.YtaoippnipcchmaaGreatDoorW.PrintLast Go.Proofs.YtaoippnipcchmaaGreatDoorW.PrintMore
open Go.Proofs.YtaoippnipcchmaaGreatDoor.TP
set_option linter.unusedVariables false
set_option linter.unusedSimpArgs false

theorem Fr.blk {c : Nat → Prop} {w w' : World} (h : Fr c w w') {b : Nat} {o : Obj} (hb : w.heap[b]? = some o) (hc : ¬ c b) : w'.heap[b]? = some o := (h.block b (Array.getElem?_eq_some_iff.1 hb).1 hc).trans hb
theorem Bel.blk {w w' : World} (h : Below w.heap.size w w') {b : Nat} {o : Obj} (hb : w.heap[b]? = some o) : w'.heap[b]? = some o := (h.block b (Array.getElem?_eq_some_iff.1 hb).1).trans hb
theorem blt {w : World} {b : Nat} {o : Obj} (hb : w.heap[b]? = some o) : b < w.heap.size := (Array.getElem?_eq_some_iff.1 hb).1
/-- In the midst of block: the result's box, the block's (b5), the token's (b6), the statement's (b7). -/
structure Mb (T : List Tk) (g a c : Nat) (w : World) (b5 : Nat) (o5 : Obj) (p : Nat) (wr : World) : Prop where
  par : Par g a c T p wr
  res : wr.heap[w.heap.size]? = some (.cells #[.int .i64 0, .string (⟨#[]⟩ : ByteArray), .int .i64 0, .int .i64 0, .slice none 0 0] 51 (0, 0))
  box : wr.heap[b5]? = some o5
  fr : Fr (fun k => k = g) w wr
  old : g < w.heap.size ∧ a < w.heap.size ∧ w.heap.size < b5
section
variable {T : List Tk} {g a c b5 p : Nat} {o5 : Obj} {w wr w' : World}
theorem Mb.below (h : Mb T g a c w b5 o5 p wr) (hb : Below wr.heap.size wr w') : Mb T g a c w b5 o5 p w' := ⟨h.par.below hb, Bel.blk hb h.res, Bel.blk hb h.box, h.fr.trans (Fr.of_below hb), h.old⟩
theorem Mb.par' (h : Mb T g a c w b5 o5 p wr) {q : Nat} (hP : Par g a c T q w') (hF : Fr (fun k => k = g) wr w') : Mb T g a c w b5 o5 q w' :=
  ⟨hP, hF.blk h.res (fun e => by have := h.old; omega), hF.blk h.box (fun e => by have := h.old; omega), h.fr.trans hF, h.old⟩
/-- Another box, laid behind, is written. -/
theorem Mb.set (h : Mb T g a c w b5 o5 p wr) {b : Nat} (hb : b5 < b) (i : Nat) (v : Value) : Mb T g a c w b5 o5 p (wr.setCell ⟨b, i, none⟩ v) := by
  have ho := h.old
  have hF : Fr (fun k => k = b) wr (wr.setCell ⟨b, i, none⟩ v) := Fr.set (c := fun k => k = b) (p := ⟨b, i, none⟩) rfl v
  exact ⟨h.par.fr hF (fun k hk => by omega), hF.blk h.res (by omega), hF.blk h.box (by omega), h.fr.new hF (fun k hk => .inr (by omega)), ho⟩
end
theorem info_node : (Tryz.prog.info? 51).map (fun i => (i.zero, i.size, i.bytes)) = some (some (.agg #[.int .i64 0, .string (⟨#[]⟩ : ByteArray), .int .i64 0, .int .i64 0, .slice none 0 0]), 5, 64) := by kernel_rfl
set_option maxHeartbeats 8000000 in
set_option maxRecDepth 100000 in
theorem block_ret {T : List Tk} {g a c i j : Nat} {t : Tr} {w : World} (hP : Par g a c T i w) (hi : i + 1 < T.length) (hm : Mt tRet (tk T i)) (hn : (tk T (i + 1)).f0 ≠ 6)
    (hs1 : isB (tk T (i + 1)) ⟨#[101, 110, 100]⟩ = false) (hs2 : isB (tk T (i + 1)) ⟨#[101, 108, 115, 101]⟩ = false) (hs3 : isB (tk T (i + 1)) ⟨#[101, 108, 115, 101, 105, 102]⟩ = false) (hs4 : isB (tk T (i + 1)) ⟨#[59]⟩ = false)
    (hex : ∀ w, Par g a c T (i + 1) w → Calls Tryz.prog 55 #[.pointer (some ⟨g, 0, none⟩), .int .i64 0] w (Res T g a c t j w)) (hj : j < T.length) (hc : isB (tk T j) ⟨#[44]⟩ = false) (hd : isB (tk T j) ⟨#[59]⟩ = false) :
    Calls Tryz.prog 17 #[.pointer (some ⟨g, 0, none⟩), .bool true] w (Res T g a c (.one 20 [] (.one 30 [] t)) j w) := by
  have HP := Lib.hid hP
  have HI := Lib.hid (And.intro hi (And.intro (show isB (tk T i) ⟨#[59]⟩ = false from (isB_mt hm [59]).trans rfl) (show isB (tk T i) ⟨#[114, 101, 116, 117, 114, 110]⟩ = true from (isB_mt hm [114, 101, 116, 117, 114, 110]).trans rfl)))
  have HN := Lib.hid (And.intro hn (And.intro hs1 (And.intro hs2 (And.intro hs3 hs4))))
  have HJ := Lib.hid (And.intro hj (And.intro hc hd))
  have HX := Lib.hid hex
  have hlt := Lib.hid (And.intro hP.lt hP.alt)
  have hfl := field_at
  clear hP hi hm hn hs1 hs2 hs3 hs4 hex hj hc hd
  go_enter Tryz.func17, Tryz.ntmps17
  go_wp2_with fail
  obtain ⟨w1, hw1, hb1, hn1, hs1⟩ : ∃ w1, w.alloc (.cells #[.int .i64 0, .string (⟨#[]⟩ : ByteArray), .int .i64 0, .int .i64 0, .slice none 0 0] 51) = w1 ∧ Below w.heap.size w w1 ∧ w1.heap[w.heap.size]? = some (.cells #[.int .i64 0, .string (⟨#[]⟩ : ByteArray), .int .i64 0, .int .i64 0, .slice none 0 0] 51 (0, 0)) ∧ w1.heap.size = w.heap.size + 1 :=
    ⟨_, rfl, (Below.refl _ _).alloc (Nat.le_refl _) _, heap_alloc_new _ _, by simp⟩
  rw [hw1]
  refine (now_call (HP.out.below hb1) (by have := HI.out.1; omega)).mono ?_
  rintro e w2 ⟨rfl, hb2⟩
  unfold tv
  have P2 := Lib.hid ((HP.out.below hb1).below hb2)
  have N2 := Lib.hid (Bel.blk hb2 hn1)
  have B2 := Lib.hid (hb1.trans (hb2.mono (by omega)))
  have s2 : w.heap.size < w2.heap.size := by have := hb2.size; omega
  clear hw1 hb1 hn1 hs1 hb2
  go_wp2_with fail
  obtain ⟨w3, hw3, hM3⟩ : ∃ w3, w2.alloc (.cells #[.int .i64 20, .string (⟨#[]⟩ : ByteArray), .int .i64 0, .int .i64 (tk T i).f3, .slice none 0 0] 51) = w3 ∧ Mb T g a c w w2.heap.size (.cells #[.int .i64 20, .string (⟨#[]⟩ : ByteArray), .int .i64 0, .int .i64 (tk T i).f3, .slice none 0 0] 51 (0, 0)) i w3 :=
    ⟨_, rfl, P2.out.below (below_alloc (Below.refl _ _) _), Bel.blk (below_alloc (Below.refl _ _) _) N2.out, heap_alloc_new _ _, (Fr.of_below B2.out).trans (Fr.of_below (below_alloc (Below.refl _ _) _)), by have := hlt.out; omega⟩
  have M3 := Lib.hid hM3
  clear hM3 P2 N2 B2
  try rw [hw3]
  clear hw3
  refine wp_loop_once ?_
  go_wp2_with fail
  refine (now_call M3.out.par (by have := HI.out.1; omega)).mono ?_
  rintro e w4 ⟨rfl, hb4⟩
  unfold tv
  have M4 := Lib.hid (M3.out.below hb4)
  clear M3 hb4
  go_wp2_with fail
  obtain ⟨w5, hw5, hM5, hT5⟩ : ∃ w5, w4.alloc (.cells #[.int .i64 (tk T i).f0, .string (tk T i).f1, .int .i64 (tk T i).f2, .int .i64 (tk T i).f3] 88) = w5 ∧ Mb T g a c w w2.heap.size (.cells #[.int .i64 20, .string (⟨#[]⟩ : ByteArray), .int .i64 0, .int .i64 (tk T i).f3, .slice none 0 0] 51 (0, 0)) i w5 ∧ w5.heap[w4.heap.size]? = some (.cells #[.int .i64 (tk T i).f0, .string (tk T i).f1, .int .i64 (tk T i).f2, .int .i64 (tk T i).f3] 88 (0, 0)) :=
    ⟨_, rfl, M4.out.below (below_alloc (Below.refl _ _) _), heap_alloc_new _ _⟩
  rw [hw5]
  have l4 : w2.heap.size < w4.heap.size := blt M4.out.box
  refine (got_no hM5.par (by have := HI.out.1; omega) ⟨#[59]⟩ HI.out.2.1).mono ?_
  rintro e w6 ⟨rfl, hb6⟩
  have M6 := Lib.hid (hM5.below hb6)
  have T6 := Lib.hid (Bel.blk hb6 hT5)
  clear M4 hw5 hM5 hT5 hb6
  go_wp2_with fail
  refine (got_yes M6.out.par (by have := HI.out.1; omega) ⟨#[114, 101, 116, 117, 114, 110]⟩ HI.out.2.2).mono ?_
  rintro e w7 ⟨rfl, hP7, hF7⟩
  have M7 := Lib.hid (M6.out.par' hP7 hF7)
  have T7 := Lib.hid (hF7.blk T6.out (by have := M6.out.old; omega))
  clear M6 T6 hP7 hF7
  obtain ⟨t0, t1, t2, t3⟩ := four_of T7.out
  have l7 : w4.heap.size < w7.heap.size := blt T7.out
  go_wp2_with fail
  obtain ⟨w8, hw8, hM8, hV8⟩ : ∃ w8, w7.alloc (.cells #[.int .i64 30, .string (⟨#[]⟩ : ByteArray), .int .i64 0, .int .i64 (tk T i).f3, .slice none 0 0] 51) = w8 ∧ Mb T g a c w w2.heap.size (.cells #[.int .i64 20, .string (⟨#[]⟩ : ByteArray), .int .i64 0, .int .i64 (tk T i).f3, .slice none 0 0] 51 (0, 0)) (i + 1) w8 ∧ w8.heap[w7.heap.size]? = some (.cells #[.int .i64 30, .string (⟨#[]⟩ : ByteArray), .int .i64 0, .int .i64 (tk T i).f3, .slice none 0 0] 51 (0, 0)) :=
    ⟨_, rfl, M7.out.below (below_alloc (Below.refl _ _) _), heap_alloc_new _ _⟩
  rw [hw8]
  refine (ends_no hM8.par HI.out.1 HN.out.1 HN.out.2.1 HN.out.2.2.1 HN.out.2.2.2.1).mono ?_
  rintro e w9 ⟨rfl, hb9⟩
  have M9 := Lib.hid (hM8.below hb9)
  have V9 := Lib.hid (Bel.blk hb9 hV8)
  clear M7 T7 hw8 hM8 hV8 hb9 t0 t1 t2 t3
  go_wp2_with fail
  have hx := is_call M9.out.par HI.out.1 ⟨#[59]⟩
  rw [HN.out.2.2.2.2] at hx
  refine hx.mono ?_
  rintro e w10 ⟨rfl, hb10⟩
  have M10 := Lib.hid (M9.out.below hb10)
  have V10 := Lib.hid (Bel.blk hb10 V9.out)
  clear M9 V9 hb10 hx
  go_wp2_with fail
  refine (exps_one M10.out.par (HX.out w10 M10.out.par) HJ.out.1 HJ.out.2.1).mono ?_
  rintro e w11 ⟨b, z, rfl, hR11, hS11, hP11, hF11⟩
  have hold := M10.out.old
  have M11 := Lib.hid (M10.out.par' hP11 hF11)
  have V11 := Lib.hid (hF11.blk V10.out (by omega))
  have l10 : w7.heap.size < w10.heap.size := blt V10.out
  have R11 := Lib.hid (And.intro (Kd.R_mono (Kd.R_lower (Kd.R_bound hR11) (show w.heap.size + 1 ≤ w10.heap.size by omega)) (fun k hk => by have := hk.2.1; omega) : RK w11 (w.heap.size + 1) (fun k => k ≠ w2.heap.size ∧ k ≠ w7.heap.size) (.slice (some ⟨b, 0, none⟩) 1 1) [z]) hS11)
  clear M10 V10 hR11 hS11 hP11 hF11 hold
  obtain ⟨v0, v1, v2, v3, v4⟩ := five_of V11.out
  have u4 := blk_frozen V11.out 4
  go_wp2_with fail
  have l11 : w7.heap.size < w11.heap.size := blt V11.out
  have M12 := Lib.hid (M11.out.set (show w2.heap.size < w7.heap.size by omega) 4 (.slice (some ⟨b, 0, none⟩) 1 1))
  have V12 := Lib.hid (blk_put (cs := #[.int .i64 30, .string (⟨#[]⟩ : ByteArray), .int .i64 0, .int .i64 (tk T i).f3, .slice none 0 0]) (cs' := #[.int .i64 30, .string (⟨#[]⟩ : ByteArray), .int .i64 0, .int .i64 (tk T i).f3, .slice (some ⟨b, 0, none⟩) 1 1]) V11.out 4 (.slice (some ⟨b, 0, none⟩) 1 1) rfl)
  have R12 := Lib.hid (RK.fr R11.out.1 (Fr.set (c := fun k => k = w7.heap.size) (p := ⟨w7.heap.size, 4, none⟩) rfl (.slice (some ⟨b, 0, none⟩) 1 1)) (fun k hk => .inr (fun e => e.2 hk)))
  clear v0 v1 v2 v3 v4 u4 M11 V11
  refine (got_no M12.out.par HJ.out.1 ⟨#[59]⟩ HJ.out.2.2).mono ?_
  rintro e w13 ⟨rfl, hb13⟩
  have M13 := Lib.hid (M12.out.below hb13)
  have V13 := Lib.hid (Bel.blk hb13 V12.out)
  have R13 := Lib.hid (Kd.R_below R12.out hb13)
  clear M12 V12 R12 hb13
  obtain ⟨v0, v1, v2, v3, v4⟩ := five_of V13.out
  obtain ⟨x0, x1, x2, x3, x4⟩ := five_of M13.out.box
  have l13 : w7.heap.size < w13.heap.size := blt V13.out
  have hold := M13.out.old
  have HM := Lib.hid (ncs_M (x := ⟨30, ⟨#[]⟩, 0, (tk T i).f3, [z]⟩) R13.out)
  go_wp2_with (first | ((with_reducible refine gate_builtin (b := .append) (xs := #[.tmp 44, .tmp 46]) rfl ?_); at_builtin; refine Kd.R_append k51 (w0 := w13) (W := w13) (w.heap.size + 1) rfl (.tmp 44) (.tmp 46) 49 51 (.agg #[.int .i64 0, .string (⟨#[]⟩ : ByteArray), .int .i64 0, .int .i64 0, .slice none 0 0]) 64 rfl Tryz.underlying49 info_node rfl (by decide) (by decide) (.slice none 0 0) [] ⟨30, ⟨#[]⟩, 0, (tk T i).f3, [z]⟩ _ (fun k => k ≠ w2.heap.size) (fun k => k ≠ w2.heap.size ∧ k ≠ w7.heap.size) rfl rfl HM.out (fun k hk => ⟨hk.1, by simp [Value.ownBlock]⟩) (fun k hk => by omega) (Kd.R_nil _ _ _ _ _) (Below.refl _ _) (by omega) (by simp) ?_))
  intro v1_ w14 hR14 hB14 hg14 hat14
  obtain ⟨A14, c14, rfl⟩ := Kd.R_slice hR14
  have hb14 : Below w13.heap.size w13 w14 := ⟨hg14.os, hg14.tape, hg14.output, hg14.size, fun k hk => hg14.block k hk (by simp [Value.ownBlock])⟩
  have M14 := Lib.hid (M13.out.below hb14)
  have R14 := Lib.hid hR14
  clear hR14 hB14 hg14 hat14 hb14 v0 v1 v2 v3 v4 x0 x1 x2 x3 x4 M13 V13 R13 HM
  obtain ⟨x0, x1, x2, x3, x4⟩ := five_of M14.out.box
  have y4 := blk_frozen M14.out.box 4
  have hX := Lib.hid (blk_put (cs := #[.int .i64 20, .string (⟨#[]⟩ : ByteArray), .int .i64 0, .int .i64 (tk T i).f3, .slice none 0 0]) (cs' := #[.int .i64 20, .string (⟨#[]⟩ : ByteArray), .int .i64 0, .int .i64 (tk T i).f3, .slice A14 1 c14]) M14.out.box 4 (.slice A14 1 c14) rfl)
  have l14 : w2.heap.size < w14.heap.size := blt M14.out.box
  have hF15 : RowKit.Hid (Fr (fun k => k = w2.heap.size) w14 (w14.setCell ⟨w2.heap.size, 4, none⟩ (.slice A14 1 c14))) := Lib.hid (Fr.set (c := fun k => k = w2.heap.size) (p := ⟨w2.heap.size, 4, none⟩) rfl _)
  have M15 : RowKit.Hid (Mid T g a c w w2.heap.size j ⟨20, ⟨#[]⟩, 0, (tk T i).f3, [⟨30, ⟨#[]⟩, 0, (tk T i).f3, [z]⟩]⟩ A14 c14 (w14.setCell ⟨w2.heap.size, 4, none⟩ (.slice A14 1 c14))) :=
    Lib.hid ⟨M14.out.par.fr hF15.out (fun k hk => by omega), hF15.out.blk M14.out.res (by omega), hX.out, RK.fr R14.out hF15.out (fun k hk => .inr (fun e => e hk)), M14.out.fr.new hF15.out (fun k hk => .inr (by omega)), hold⟩
  obtain ⟨m0, m1, m2, m3, m4⟩ := five_of hX.out
  obtain ⟨n0, n1, n2, n3, n4⟩ := five_of M15.out.res
  have r0 := blk_frozen M15.out.res 0
  have r1 := blk_frozen M15.out.res 1
  have r2 := blk_frozen M15.out.res 2
  have r3 := blk_frozen M15.out.res 3
  have r4 := blk_frozen M15.out.res 4
  go_wp2_with fail
  have hg := five_set (.int .i64 20) (.string (⟨#[]⟩ : ByteArray)) (.int .i64 0) (.int .i64 (tk T i).f3) (.slice A14 1 c14) M15.out.res
  clear n0 n1 n2 n3 n4 r0 r1 r2 r3 r4 m0 m1 m2 m3 m4
  exact bodyPost_ret (results_cell_row rfl _ _ w.heap.size 51 _ (0, 0) _ rfl hg Tryz.underlying51 rfl (by kernel_rfl)) rfl (M15.out.res_ ⟨rfl, rfl, rfl, _, rfl, rfl, rfl, rfl, z, rfl, R11.out.2⟩)
end Go.Proofs.YtaoippnipcchmaaGreatDoor.PT
