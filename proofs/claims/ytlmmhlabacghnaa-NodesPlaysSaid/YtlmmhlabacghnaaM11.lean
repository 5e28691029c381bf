/- nodes: the reference's Put: a node of another chain stands at the main position. -/
import Derived.Test.YtlmmhlabacghnaaM10
import Derived.Deep.CutBlock
import Derived.Deep.RegionHeld3
import Derived.BigRegion
namespace Go.Proofs.Ytlmmhlabacghnaa.PH
open Go.RowKit Go.Proofs.YtlmmhlabacghnaaW.PrintWords Go.Proofs.YtlmmhlabacghnaaW.PrintLast Go.Proofs.YtlmmhlabacghnaaW.PrintMore
open Go.Proofs.Ytlmmhlabacghnaa.HM
set_option linter.unusedVariables false
set_option linter.unusedSimpArgs false

theorem far3o {w : World} {o : Nat} {v : Value} {b i j m : Nat} {x y z : Value} (h1 : o ≠ i) (h2 : o ≠ j) (h3 : o ≠ m) (h : w.cell? ⟨b, o, none⟩ = some v) : (((w.setCell ⟨b, i, none⟩ x).setCell ⟨b, j, none⟩ y).setCell ⟨b, m, none⟩ z).cell? ⟨b, o, none⟩ = some v := by
  rw [World.cell?_setCell_other _ _ _ _ (fun e => h3 (by injection e with _ e2; exact e2.symm)), World.cell?_setCell_other _ _ _ _ (fun e => h2 (by injection e with _ e2; exact e2.symm)), World.cell?_setCell_other _ _ _ _ (fun e => h1 (by injection e with _ e2; exact e2.symm))]
  exact h
theorem far3od {w : World} {o : Nat} {v : Value} {b i j m : Nat} {x y z : Value} (h1 : o ≠ i) (h2 : o ≠ j) (h3 : o ≠ m) (h : w.cell? ⟨b, o, none⟩ = some v) : ((((w.setCell ⟨b, i, none⟩ x).setCell ⟨b, j, none⟩ y).setCell ⟨b, m, none⟩ z).drew).cell? ⟨b, o, none⟩ = some v := far3o h1 h2 h3 h
theorem heap3 {w : World} {c b i j m : Nat} {x y z : Value} (h : c ≠ b) : (((w.setCell ⟨b, i, none⟩ x).setCell ⟨b, j, none⟩ y).setCell ⟨b, m, none⟩ z).heap[c]? = w.heap[c]? := by
  rw [Below.heap_setCell _ _ _ _ h, Below.heap_setCell _ _ _ _ h, Below.heap_setCell _ _ _ _ h]
theorem heap6 {w : World} {c b b' i j m i' j' m' : Nat} {x y z x' y' z' : Value} (h : c ≠ b) (h' : c ≠ b') : (((((((w.setCell ⟨b, i, none⟩ x).setCell ⟨b, j, none⟩ y).setCell ⟨b, m, none⟩ z).setCell ⟨b', i', none⟩ x').setCell ⟨b', j', none⟩ y').setCell ⟨b', m', none⟩ z').drew).heap[c]? = w.heap[c]? := by
  rw [show ∀ u : World, u.drew.heap = u.heap from fun _ => rfl, heap3 h', heap3 h]
theorem size6 {w : World} {b b' i j m i' j' m' : Nat} {x y z x' y' z' : Value} : (((((((w.setCell ⟨b, i, none⟩ x).setCell ⟨b, j, none⟩ y).setCell ⟨b, m, none⟩ z).setCell ⟨b', i', none⟩ x').setCell ⟨b', j', none⟩ y').setCell ⟨b', m', none⟩ z').drew).heap.size = w.heap.size := by simp [World.setCell, World.drew]
theorem csOf_get (N : Nat) (C : Nat → List Nat) (j : Nat) (h : j < N) : (csOf N C).getD j [] = (C j).map (fun x : Nat => (x : Int)) := by
  unfold csOf
  rw [List.getD_eq_getElem?_getD, List.getElem?_map, List.getElem?_range h]
  rfl
theorem csOf_same (N : Nat) (C : Nat → List Nat) (o : Nat) : csOf N (fun j => if j = o then C o else C j) = csOf N C := by
  unfold csOf
  apply List.map_congr_left
  intro j _
  by_cases h : j = o
  · simp only [if_pos h]; rw [h]
  · simp only [if_neg h]
/-- m gives way to fi. -/
def rep (m fi x : Nat) : Nat := if x = m then fi else x
theorem rep_no (m fi : Nat) : ∀ (l : List Nat), m ∉ l → l.map (rep m fi) = l
  | [], _ => rfl
  | a :: l, h => by
    have h1 : a ≠ m := fun e => h (by rw [e]; simp)
    rw [List.map_cons, rep_no m fi l (fun e => h (List.mem_cons_of_mem _ e))]
    unfold rep
    rw [if_neg h1]
theorem rep_chain {m fi q : Nat} {D B : List Nat} (h : (D ++ q :: m :: B).Nodup) : (D ++ q :: m :: B).map (rep m fi) = D ++ q :: fi :: B := by
  obtain ⟨h1, h2, h3⟩ := List.nodup_append.1 h
  rw [List.nodup_cons, List.nodup_cons] at h2
  rw [List.map_append, List.map_cons, List.map_cons, rep_no m fi D (fun e => h3 m e m (by simp) rfl), rep_no m fi B h2.2.1]
  have e1 : rep m fi q = q := by unfold rep; rw [if_neg (fun e => h2.1 (by rw [e]; simp))]
  have e2 : rep m fi m = fi := by unfold rep; rw [if_pos rfl]
  rw [e1, e2]
set_option maxHeartbeats 8000000 in
set_option maxRecDepth 100000 in
theorem rput_d {B q bk bv bc ck cv cc : Nat} {l : List Nd} {f : Nat} {C : Nat → List Nat} {w : World} (h : IsR B q bk bv bc ck cv cc l f C w) (hB : B ≤ w.heap.size) (hI : InvC l f C) (k v : Ky) (hk : okB k.f0 k.f1 k.f2 = true) (hv : okB v.f0 v.f1 v.f2 = true) (hk0 : ¬ k.f0 = 0) (at_ r : Int) (hf : fndR l k = (at_, r)) (ha : at_ = -1) (hv0 : ¬ v.f0 = 0) (hV : Inv l f C) (m : Nat) (hm : hp l.length k = m) (hz : ¬ (nd l m).f0.f0 = 0) (fi : Nat) (hr : roomL l f = ((fi : Int), fi)) (hff : fi < f) (hfm : fi ≠ m) (o qq : Nat) (ho : hp l.length (nd l m).f0 = o) (hom : o ≠ m) (D E : List Nat) (hC : C o = D ++ qq :: m :: E) (xx yy : Int) :
    Calls Try.prog 55 #[.pointer (some ⟨q, 0, none⟩), kv k, kv v] w fun x w' => x = .returned (.tuple #[.int .i64 r, .int .i64 0]) ∧ IsR B q bk bv bc ck cv cc (((l.set qq ⟨(nd l qq).f0, (nd l qq).f1, yy⟩).set fi ⟨(nd l m).f0, (nd l m).f1, xx⟩).set m ⟨k, v, 0⟩) fi (fun j => if j = o then D ++ qq :: fi :: E else if j = m then [m] else C j) w' ∧ Below B w w' := by
  unfold kv
  have H := Lib.hid (And.intro h (And.intro hB (And.intro hI hf)))
  have HK := Lib.hid (And.intro hk hv)
  have hk1 : (k.f0 == 0) = false := beq_eq_false_iff_ne.2 hk0
  have hlen := h.len
  have hlt := h.toL.lt
  have hI0 := Lib.hid hI
  clear h hB hI hf hk hv hk0
  subst ha
  have hml : m < l.length := hm ▸ hp_lt hV.pow k
  have hsm := hV.small
  have HV := Lib.hid (And.intro hv0 (And.intro hV (And.intro hm hml)))
  have hm5 : (m : Int) ≤ 65536 := by omega
  have p1 : 0 ≤ (m : Int) := by omega
  have p2 : (m : Int) < (l.length : Int) := by omega
  replace p1 := eq_true p1
  replace p2 := eq_true p2
  have d0 : decide ((l.length : Int) = 0) = false := decide_eq_false (by omega)
  have d1 : ((l.length : Int) == 0) = false := beq_eq_false_iff_ne.2 (by omega)
  clear hv0 hV hm hml
  have HZ := Lib.hid hz
  have hfi5 : (fi : Int) ≤ 65536 := by have := hI0.out.fle; omega
  have hfil : fi < l.length := by have := hI0.out.fle; omega
  have HRM := Lib.hid (And.intro hr (And.intro hff (And.intro hfm hfil)))
  have hol : o < l.length := ho ▸ hp_lt HV.out.2.1.pow (nd l m).f0
  have HOM := Lib.hid ho
  have HOO := Lib.hid (And.intro hom (And.intro hol hC))
  clear hz hr hff hfm ho hC hfil hom hol
  go_enter Try.func55, Try.ntmps55
  go_wp2_with fail
  obtain ⟨w2, hw2, hb2, hk2, hv2, hs2⟩ : ∃ w2, (w.alloc (.cells #[.int .i64 k.f0, .int .i64 k.f1, .string k.f2] 30)).alloc (.cells #[.int .i64 v.f0, .int .i64 v.f1, .string v.f2] 30) = w2 ∧ Below w.heap.size w w2 ∧
      w2.heap[w.heap.size]? = some (.cells #[.int .i64 k.f0, .int .i64 k.f1, .string k.f2] 30 (0, 0)) ∧ w2.heap[w.heap.size + 1]? = some (.cells #[.int .i64 v.f0, .int .i64 v.f1, .string v.f2] 30 (0, 0)) ∧ w2.heap.size = w.heap.size + 2 :=
    ⟨_, rfl, ((Below.refl _ _).alloc (Nat.le_refl _) _).alloc (by simp) _, (Below.heap_alloc _ _ _ (by simp)).trans (heap_alloc_new _ _), by have := heap_alloc_new (w.alloc (.cells #[.int .i64 k.f0, .int .i64 k.f1, .string k.f2] 30)) (.cells #[.int .i64 v.f0, .int .i64 v.f1, .string v.f2] 30); simpa using this, by simp⟩
  rw [hw2]
  refine (trestleref03_Check.calls k.f0 k.f1 k.f2 0 w2 (by unfold trestleref03_Check.f okN; rw [if_pos HK.out.1])).mono ?_
  rintro r1 w3 ⟨rfl, hb3⟩
  have K3 := Lib.hid ((hb3.block w.heap.size (by omega)).trans hk2)
  have V3 := Lib.hid ((hb3.block (w.heap.size + 1) (by omega)).trans hv2)
  have B3 := Lib.hid (hb2.trans (hb3.mono (by omega)))
  have S3 : w.heap.size + 2 ≤ w3.heap.size := by have := hb3.size; omega
  clear hw2 hb2 hk2 hv2 hs2 hb3
  obtain ⟨v0, v1, v2⟩ := three_of V3.out
  go_wp2_with fail
  refine (trestleref03_Check.calls v.f0 v.f1 v.f2 0 w3 (by unfold trestleref03_Check.f okN; rw [if_pos HK.out.2])).mono ?_
  rintro r1 w4 ⟨rfl, hb4⟩
  have K4 := Lib.hid ((hb4.block w.heap.size (by omega)).trans K3.out)
  have V4 := Lib.hid ((hb4.block (w.heap.size + 1) (by omega)).trans V3.out)
  have B4 := Lib.hid (B3.out.trans (hb4.mono (by omega)))
  have S4 : w.heap.size + 2 ≤ w4.heap.size := by have := hb4.size; omega
  clear v0 v1 v2 hb4
  obtain ⟨k0, k1, k2⟩ := three_of K4.out
  go_wp2_with fail
  have hx := rfind_call (H.out.1.below B4.out) H.out.2.2.1 k _ _ H.out.2.2.2
  unfold kv at hx
  refine hx.mono ?_
  rintro r1 w5 ⟨rfl, hb5⟩
  have K5 := Lib.hid ((hb5.block w.heap.size (by omega)).trans K4.out)
  have V5 := Lib.hid ((hb5.block (w.heap.size + 1) (by omega)).trans V4.out)
  have B5 := Lib.hid (B4.out.trans (hb5.mono (by omega)))
  have S5 : w.heap.size + 2 ≤ w5.heap.size := by have := hb5.size; omega
  have R5 := Lib.hid (H.out.1.below B5.out)
  clear k0 k1 k2 hb5 hx
  obtain ⟨k0, k1, k2⟩ := three_of K5.out
  obtain ⟨v0, v1, v2⟩ := three_of V5.out
  have hmx : Try.prog.follows .mixedOrders = true := by kernel_rfl
  have hvb : (v.f0 == 0) = false := beq_eq_false_iff_ne.2 HV.out.1
  obtain ⟨x0, x1, x2, x3, _⟩ := four_of R5.out.blk
  have hx := place_call k l.length HV.out.2.1.pow ⟨HK.out.1, beq_eq_false_iff_ne.1 hk1⟩ w5.drew
  unfold kv at hx
  rw [HV.out.2.2.1] at hx
  go_wp2_with fail
  go_still_tail 6, (by kernel_rfl)
  change wpList _ _ _ _ _ w5.drew
  go_wp2_with fail
  refine hx.mono ?_
  rintro r1 w6 ⟨rfl, hb6⟩
  have hb56 := (Below.refl w5.heap.size w5).drew.trans hb6
  have B6 := Lib.hid (B5.out.trans (hb56.mono B5.out.size))
  have R6 := Lib.hid (R5.out.below hb56)
  have K6 := Lib.hid ((hb56.block w.heap.size (by omega)).trans K5.out)
  have V6 := Lib.hid ((hb56.block (w.heap.size + 1) (by omega)).trans V5.out)
  have S6 : w.heap.size + 2 ≤ w6.heap.size := by have := hb56.size; omega
  clear hx hb6 hb56 x0 x1 x2 x3 k0 k1 k2 v0 v1 v2 R5 K5 V5 B5 B4 B3 K4 K3 V4 V3
  obtain ⟨x0, x1, x2, x3, x4⟩ := four_of R6.out.blk
  obtain ⟨e0, e1, e2⟩ := R6.out.key m HV.out.2.2.2
  have hz1 : ((nd l m).f0.f0 == 0) = false := beq_eq_false_iff_ne.2 HZ.out
  have hfl := H.out.2.2.1.fle
  have hff5 : (f : Int) ≤ 65536 := by omega
  go_upto_block 0 with (fail)
  go_cut [11] (fun v11 wx => v11 = .int .i64 (roomL l f).1 ∧ RowKit.Hid (IsR B q bk bv bc ck cv cc l (roomL l f).2 C wx) ∧ RowKit.Hid (Below B w wx) ∧ RowKit.Hid (wx.heap[w.heap.size]? = some (.cells #[.int .i64 k.f0, .int .i64 k.f1, .string k.f2] 30 (0, 0))) ∧ RowKit.Hid (wx.heap[w.heap.size + 1]? = some (.cells #[.int .i64 v.f0, .int .i64 v.f1, .string v.f2] 30 (0, 0))) ∧ w.heap.size + 2 ≤ wx.heap.size)
  case first =>
    have B6' := Lib.hid (B6.out.mono H.out.2.1)
    clear x0 x1 x2 x3 x4 e0 e1 e2
    go_wp2_with fail
    go_loopg [11] (f + 1) (fun kq v11 wx => ∃ (g : Nat) (x : Int), v11 = .int .i64 x ∧ g ≤ f ∧ RowKit.Hid ((x = -1 ∧ roomL l g = roomL l f ∧ kq = g + 1) ∨ (x = g ∧ roomL l f = ((g : Int), g) ∧ kq = 0)) ∧ RowKit.Hid (IsR B q bk bv bc ck cv cc l g C wx) ∧ RowKit.Hid (Below B w wx) ∧ RowKit.Hid (wx.heap[w.heap.size]? = some (.cells #[.int .i64 k.f0, .int .i64 k.f1, .string k.f2] 30 (0, 0))) ∧ RowKit.Hid (wx.heap[w.heap.size + 1]? = some (.cells #[.int .i64 v.f0, .int .i64 v.f1, .string v.f2] 30 (0, 0))) ∧ w.heap.size + 2 ≤ wx.heap.size)
    case atStart => exact ⟨f, -1, rfl, Nat.le_refl _, Lib.hid (.inl ⟨rfl, rfl, rfl⟩), R6, B6', K6, V6, S6⟩
    case round =>
      clear R6 B6' K6 V6 S6
      obtain ⟨g, x, rfl, hgf, hph, hR, hB6, hK, hV, hS⟩ := hrel
      obtain ⟨x0, x1, x2, x3, x4⟩ := four_of hR.out.blk
      rcases hph.out with ⟨rfl, hr, hkq⟩ | ⟨rfl, hr, hkq⟩
      · have HR := Lib.hid (And.intro hr hkq)
        have c1 : decide ((-1 : Int) < 0) = true := by decide
        clear hr hkq hph
        cases g with
        | zero =>
          go_wp2_with fail
          go_meet
          case rel => exact ⟨by rw [← HR.out.1]; rfl, Lib.hid (by rw [← HR.out.1]; exact hR.out), hB6, hK, hV, hS⟩
        | succ g' =>
          have c2 : decide (((g' + 1 : Nat) : Int) > 0) = true := decide_eq_true (by omega)
          have c3 : decide (0 < ((g' + 1 : Nat) : Int)) = true := decide_eq_true (by omega)
          have c4 : decide (0 < (g' : Int) + 1) = true := decide_eq_true (by omega)
          have hg5 : (g' : Int) ≤ 65536 := by omega
          have hgl : g' < l.length := by omega
          have HG := Lib.hid (And.intro hgl hgf)
          clear hgf hgl
          obtain ⟨w7, hw7⟩ : ∃ w7, wr.setCell ⟨q, 3, none⟩ (.int .i64 (g' : Int)) = w7 := ⟨_, rfl⟩
          have R7 : RowKit.Hid (IsR B q bk bv bc ck cv cc l (g' : Nat) C w7) := Lib.hid (by rw [← hw7]; exact (hR.out.toL.setF (g' : Int)).toR rfl rfl rfl rfl hlen)
          have B7 : RowKit.Hid (Below B w w7) := Lib.hid (by rw [← hw7]; exact hB6.out.setCell (p := ⟨q, 3, none⟩) hR.out.bq _)
          have K7 : RowKit.Hid (w7.heap[w.heap.size]? = some (.cells #[.int .i64 k.f0, .int .i64 k.f1, .string k.f2] 30 (0, 0))) := Lib.hid (by rw [← hw7, Below.heap_setCell _ _ _ _ (by show w.heap.size ≠ q; omega)]; exact hK.out)
          have V7 : RowKit.Hid (w7.heap[w.heap.size + 1]? = some (.cells #[.int .i64 v.f0, .int .i64 v.f1, .string v.f2] 30 (0, 0))) := Lib.hid (by rw [← hw7, Below.heap_setCell _ _ _ _ (by show w.heap.size + 1 ≠ q; omega)]; exact hV.out)
          have S7 : w.heap.size + 2 ≤ w7.heap.size := by rw [← hw7]; simp [World.setCell]; exact hS
          have HW7 := Lib.hid hw7
          have t1 : 0 ≤ (g' : Int) := by omega
          have t2 : (g' : Int) < (l.length : Int) := by have := HG.out.1; omega
          replace t1 := eq_true t1
          replace t2 := eq_true t2
          clear hw7
          go_upto_region 21 with (fail)
          rw [HW7.out]
          clear x0 x1 x2 x3 x4
          obtain ⟨x0, x1, x2, x3, x4⟩ := four_of R7.out.blk
          obtain ⟨e0, e1, e2⟩ := R7.out.key g' HG.out.1
          have hr1 : (if (nd l g').f0.f0 = 0 then ((g' : Int), g') else roomL l g') = roomL l f := HR.out.1
          by_cases hz : (nd l g').f0.f0 = 0
          · rw [if_pos hz] at hr1
            rw [hz] at e0
            have HR1 := Lib.hid hr1
            clear hr1 hz
            go_quiet (fail)
            have R8 := Lib.hid (R7.out.below (pw_below_drewN (Below.refl _ _) nq))
            obtain ⟨y0, y1, y2, y3, y4⟩ := four_of R8.out.blk
            go_wp2_with fail
            go_roundg 0
            case measure => have := HR.out.2; omega
            case rel => exact ⟨g', (g' : Int), rfl, by have := HG.out.2; omega, Lib.hid (.inr ⟨rfl, HR1.out.symm, rfl⟩), R8, Lib.hid (pw_below_drewN B7.out _), Lib.hid (blk_drewN K7.out _), Lib.hid (blk_drewN V7.out _), S7⟩
          · rw [if_neg hz] at hr1
            have hzb : ((nd l g').f0.f0 == 0) = false := beq_eq_false_iff_ne.2 hz
            have HR1 := Lib.hid hr1
            clear hr1 hz
            go_quiet (fail)
            go_wp2_with fail
            go_roundg (g' + 1)
            case measure => have := HR.out.2; omega
            case rel => exact ⟨g', -1, rfl, by have := HG.out.2; omega, Lib.hid (.inl ⟨rfl, HR1.out, rfl⟩), Lib.hid (R7.out.below (pw_below_drewN (Below.refl _ _) _)), Lib.hid (pw_below_drewN B7.out _), Lib.hid (blk_drewN K7.out _), Lib.hid (blk_drewN V7.out _), S7⟩
      · have HR := Lib.hid (And.intro hr hkq)
        have c1 : decide ((g : Int) < 0) = false := decide_eq_false (by omega)
        clear hr hkq hph
        go_wp2_with fail
        go_meet
        case rel => exact ⟨by rw [HR.out.1], Lib.hid (by rw [HR.out.1]; exact hR.out), hB6, hK, hV, hS⟩
  case rest =>
    obtain ⟨rfl, hR7, hB7, hK7, hV7, S7⟩ := hcut
    clear R6 K6 V6 S6 B6 x0 x1 x2 x3 x4 e0 e1 e2
    rw [HRM.out.1] at hR7 ⊢
    have c1 : decide ((fi : Int) < 0) = false := decide_eq_false (by omega)
    obtain ⟨x0, x1, x2, x3, x4⟩ := four_of hR7.out.blk
    obtain ⟨e0, e1, e2⟩ := hR7.out.key m HV.out.2.2.2
    have hx := place_call (nd l m).f0 l.length HV.out.2.1.pow (HV.out.2.1.key HV.out.2.2.2 HZ.out) wc.drew
    unfold kv at hx
    rw [HOM.out] at hx
    go_wp2_with fail
    go_still_tail 12, (by kernel_rfl)
    change wpList _ _ _ _ _ wc.drew
    go_wp2_with fail
    refine hx.mono ?_
    rintro r1 w8 ⟨rfl, hb8⟩
    have hb78 := (Below.refl wc.heap.size wc).drew.trans hb8
    have hBz : B ≤ wc.heap.size := by have := hR7.out.toL.ge; have := hR7.out.toL.lt; omega
    have B8 := Lib.hid (hB7.out.trans (hb78.mono hBz))
    have R8 := Lib.hid (hR7.out.below hb78)
    have K8 := Lib.hid ((hb78.block w.heap.size (by omega)).trans hK7.out)
    have V8 := Lib.hid ((hb78.block (w.heap.size + 1) (by omega)).trans hV7.out)
    have S8 : w.heap.size + 2 ≤ w8.heap.size := by have := hb78.size; omega
    clear hx hb8 hb78 hBz x0 x1 x2 x3 x4 e0 e1 e2 hR7 hB7 hK7 hV7 S7
    have hol := HOO.out.2.1
    have o1 : ((o : Int) == (m : Int)) = false := beq_eq_false_iff_ne.2 (by have := HOO.out.1; omega)
    have o2 : decide ((o : Int) = (m : Int)) = false := decide_eq_false (by have := HOO.out.1; omega)
    have s1 : 0 ≤ (o : Int) := by omega
    have s2 : (o : Int) < (l.length : Int) := by omega
    have ho5 : (o : Int) ≤ 65536 := by omega
    replace s1 := eq_true s1
    replace s2 := eq_true s2
    have hclen := H.out.2.2.1.clen o
    have hBz : B ≤ w8.heap.size := by have := R8.out.toL.ge; have := R8.out.toL.lt; omega
    have L8 : RowKit.Hid (IsRL B q bk bv bc ck cv cc l.length (ksOf l) (vsOf l) (csOf l.length (fun j => if j = o then C o else C j)) fi w8) := Lib.hid (by rw [csOf_same]; exact R8.out.toL)
    have HBZ := Lib.hid hBz
    have HCL := Lib.hid hclen
    clear hclen hBz hol
    go_upto_block 4 with (fail)
    go_cut [] (fun wx => RowKit.Hid (IsRL B q bk bv bc ck cv cc l.length (ksOf l) (vsOf l) (csOf l.length (fun j => if j = o then (C o).map (rep m fi) else C j)) fi wx) ∧ RowKit.Hid (Below B w wx) ∧ w.heap.size + 2 ≤ wx.heap.size ∧ RowKit.Hid (wx.heap[w.heap.size]? = some (.cells #[.int .i64 k.f0, .int .i64 k.f1, .string k.f2] 30 (0, 0))) ∧ RowKit.Hid (wx.heap[w.heap.size + 1]? = some (.cells #[.int .i64 v.f0, .int .i64 v.f1, .string v.f2] 30 (0, 0))))
    case first =>
      go_wp2_with fail
      go_loopg [15] (C o).length (fun kq v15 wx => ∃ X T : List Nat, v15 = .int .i64 X.length ∧ kq = T.length ∧ RowKit.Hid (C o = X ++ T) ∧ RowKit.Hid (IsRL B q bk bv bc ck cv cc l.length (ksOf l) (vsOf l) (csOf l.length (fun j => if j = o then X.map (rep m fi) ++ T else C j)) fi wx) ∧ RowKit.Hid (Below B w wx) ∧ w.heap.size + 2 ≤ wx.heap.size ∧ RowKit.Hid (wx.heap[w.heap.size]? = some (.cells #[.int .i64 k.f0, .int .i64 k.f1, .string k.f2] 30 (0, 0))) ∧ RowKit.Hid (wx.heap[w.heap.size + 1]? = some (.cells #[.int .i64 v.f0, .int .i64 v.f1, .string v.f2] 30 (0, 0))))
      case atStart => exact ⟨[], C o, rfl, rfl, Lib.hid rfl, L8, B8, S8, K8, V8⟩
      case round =>
        clear L8 B8 S8 K8 V8 R8
        obtain ⟨X, T, rfl, hkq, hXT, hL, hBw, hS, hK, hV⟩ := hrel
        have hcl := HCL.out
        have hlen2 : (C o).length = X.length + T.length := by rw [hXT.out, List.length_append]
        have hget := csOf_get l.length (fun j => if j = o then X.map (rep m fi) ++ T else C j) o HOO.out.2.1
        rw [if_pos rfl] at hget
        obtain ⟨Ac, cx, c0, hCc⟩ := hL.out.chain o HOO.out.2.1
        rw [hget] at c0 hCc
        have hlen3 : ((X.map (rep m fi) ++ T).map (fun x : Nat => (x : Int))).length = X.length + T.length := by simp
        obtain ⟨n, hn⟩ : ∃ n, X.length + T.length = n := ⟨_, rfl⟩
        rw [hlen3, hn] at c0
        have hX5 : (X.length : Int) ≤ 65536 := by omega
        have hn5 : (n : Int) ≤ 65536 := by omega
        have HGT := Lib.hid (And.intro hget (And.intro hlen2 hn))
        obtain ⟨x0, x1, x2, x3, x4⟩ := four_of hL.out.blk
        cases T with
        | nil =>
          have d2_ : decide (X.length < n) = false := decide_eq_false (by simp at hn; omega)
          have d3_ : decide ((X.length : Int) < (n : Int)) = false := decide_eq_false (by simp at hn; omega)
          clear hget hlen2 hn hlen3 hCc hkq
          go_wp2_with fail
          go_meet
          case rel => exact ⟨Lib.hid (by have h1 := hL.out; have h2 := hXT.out; rw [List.append_nil] at h1 h2; rw [h2]; exact h1), hBw, hS, hK, hV⟩
        | cons p T2 =>
          rw [List.length_cons] at hn hkq
          have d2_ : decide (X.length < n) = true := decide_eq_true (by omega)
          have d3_ : decide ((X.length : Int) < (n : Int)) = true := decide_eq_true (by omega)
          have t1 : 0 ≤ (X.length : Int) := by omega
          have t2 : (X.length : Int) < (n : Int) := by omega
          replace t1 := eq_true t1
          replace t2 := eq_true t2
          obtain ⟨ad, hA, c1_⟩ := at_int2 hCc X.length (by simp)
          have hgp : ((X.map (rep m fi) ++ p :: T2).map (fun x : Nat => (x : Int))).getD X.length 0 = (p : Int) := by
            rw [List.getD_eq_getElem?_getD, List.map_append, List.getElem?_append_right (by simp)]
            simp
          rw [hgp] at c1_
          have HAD := Lib.hid hA
          subst hA
          have HN := Lib.hid (And.intro hn hkq)
          clear hget hlen2 hn hlen3 hCc hkq hgp
          by_cases hpm : p = m
          · have b1 : ((p : Int) == (m : Int)) = true := beq_iff_eq.2 (by omega)
            have HPM := Lib.hid hpm
            clear hpm
            go_wp2_with (refine hL.out.storeI rfl rfl (.tmp 227) (.tmp 226) rfl o HOO.out.2.1 _ _ _ c0 ad rfl X.length (by rw [HGT.out.1]; simp) (fi : Int) rfl rfl ?_)
            intro w10 h10 hb10 hc10 hfr10
            have h10b : IsRL B q bk bv bc ck cv cc l.length (ksOf l) (vsOf l) ((csOf l.length (fun j => if j = o then X.map (rep m fi) ++ p :: T2 else C j)).set o (((csOf l.length (fun j => if j = o then X.map (rep m fi) ++ p :: T2 else C j)).getD o []).set X.length (fi : Int))) fi w10 := by rw [List.getD_eq_getElem?_getD]; exact h10
            clear h10
            have h10 := h10b
            clear h10b
            rw [HGT.out.1] at h10
            have e1 : ((X.map (rep m fi) ++ p :: T2).map (fun x : Nat => (x : Int))).set X.length (fi : Int) = (((X ++ [p]).map (rep m fi) ++ T2)).map (fun x : Nat => (x : Int)) := by
              rw [List.map_append, List.set_append_right _ _ (by simp)]
              have e2 : rep m fi p = fi := by unfold rep; rw [if_pos HPM.out]
              simp [e2]
            rw [e1, csOf_set l.length _ o _ HOO.out.2.1] at h10
            have e3 : csOf l.length (fun j => if j = o then (X ++ [p]).map (rep m fi) ++ T2 else (fun j => if j = o then X.map (rep m fi) ++ p :: T2 else C j) j) = csOf l.length (fun j => if j = o then (X ++ [p]).map (rep m fi) ++ T2 else C j) := by
              congr 1
              funext j
              by_cases hj : j = o
              · simp only [if_pos hj]
              · simp only [if_neg hj]
            rw [e3] at h10
            have L10 := Lib.hid h10
            have B10 := Lib.hid (hBw.out.trans hb10)
            have K10 := Lib.hid (hfr10 _ _ _ hK.out (by decide))
            have V10 := Lib.hid (hfr10 _ _ _ hV.out (by decide))
            have S10 : w.heap.size + 2 ≤ w10.heap.size := by have := hb10.size; omega
            clear h10 hb10 hc10 hfr10 e1 e3
            go_wp2_with fail
            go_roundg T2.length
            case measure => have := HN.out.2; omega
            case rel => exact ⟨X ++ [p], T2, by (first | go_num | (rw [List.length_append, List.length_singleton]; go_num)), rfl, Lib.hid (by rw [hXT.out]; simp), L10, B10, S10, K10, V10⟩
          · have b1 : ((p : Int) == (m : Int)) = false := beq_eq_false_iff_ne.2 (by omega)
            have HPM := Lib.hid hpm
            clear hpm
            go_wp2_with fail
            go_roundg T2.length
            case measure => have := HN.out.2; omega
            case rel => exact ⟨X ++ [p], T2, by (first | go_num | (rw [List.length_append, List.length_singleton]; go_num)), rfl, Lib.hid (by rw [hXT.out]; simp), Lib.hid (by
              have e2 : rep m fi p = p := by unfold rep; rw [if_neg HPM.out]
              have e4 : (X ++ [p]).map (rep m fi) ++ T2 = X.map (rep m fi) ++ p :: T2 := by simp [e2]
              rw [e4]; exact hL.out), hBw, hS, hK, hV⟩
    case rest =>
      obtain ⟨IL, B9, S9, K9, V9⟩ := hcut
      clear L8 B8 S8 K8 V8 R8
      have hfil := HRM.out.2.2.2
      have hfm := HRM.out.2.2.1
      have hml := HV.out.2.2.2
      have ne1 := IL.out.n1
      have ne2 := IL.out.n2
      have ne3 := IL.out.n3
      have ne3s := Ne.symm IL.out.n3
      have ne4 : w.heap.size ≠ bk := by omega
      have ne5 : w.heap.size ≠ bv := by omega
      have ne6 : w.heap.size + 1 ≠ bk := by omega
      have ne7 : w.heap.size + 1 ≠ bv := by omega
      have t1 : 0 ≤ (fi : Int) := by omega
      have t2 : (fi : Int) < (l.length : Int) := by omega
      replace t1 := eq_true t1
      replace t2 := eq_true t2
      have j0a : m * 3 ≠ fi * 3 := by omega
      have j0b : m * 3 ≠ fi * 3 + 1 := by omega
      have j0c : m * 3 ≠ fi * 3 + 2 := by omega
      have j1a : m * 3 + 1 ≠ fi * 3 := by omega
      have j1b : m * 3 + 1 ≠ fi * 3 + 1 := by omega
      have j1c : m * 3 + 1 ≠ fi * 3 + 2 := by omega
      have j2a : m * 3 + 2 ≠ fi * 3 := by omega
      have j2b : m * 3 + 2 ≠ fi * 3 + 1 := by omega
      have j2c : m * 3 + 2 ≠ fi * 3 + 2 := by omega
      have f0_ := IL.out.kfree (fi * 3)
      have f1_ := IL.out.kfree (fi * 3 + 1)
      have f2_ := IL.out.kfree (fi * 3 + 2)
      have g0_ := IL.out.vfree (fi * 3)
      have g1_ := IL.out.vfree (fi * 3 + 1)
      have g2_ := IL.out.vfree (fi * 3 + 2)
      obtain ⟨x0, x1, x2, x3, x4⟩ := four_of IL.out.blk
      obtain ⟨z0, z1, z2⟩ := IL.out.key fi hfil
      obtain ⟨y0, y1, y2⟩ := IL.out.val fi hfil
      obtain ⟨e0, e1, e2⟩ := IL.out.key m hml
      rw [kd_ks] at e0 e1 e2
      obtain ⟨h0_, h1_, h2_⟩ := IL.out.val m hml
      rw [kd_vs] at h0_ h1_ h2_
      clear hfil hfm hml
      go_upto_region 40 with (fail)
      go_cut [] (fun wx => RowKit.Hid (IsRL B q bk bv bc ck cv cc l.length ((ksOf l).set fi (nd l m).f0) ((vsOf l).set fi (nd l m).f1) (csOf l.length (fun j => if j = o then (C o).map (rep m fi) else C j)) fi wx) ∧ RowKit.Hid (Below B w wx) ∧ w.heap.size + 2 ≤ wx.heap.size ∧ RowKit.Hid (wx.heap[w.heap.size]? = some (.cells #[.int .i64 k.f0, .int .i64 k.f1, .string k.f2] 30 (0, 0))) ∧ RowKit.Hid (wx.heap[w.heap.size + 1]? = some (.cells #[.int .i64 v.f0, .int .i64 v.f1, .string v.f2] 30 (0, 0))))
      case first =>
        go_region_held3 (fun w' => w'.cell? ⟨q, 0, none⟩ = some (.slice (some ⟨bk, 0, none⟩) l.length ck) ∧ w'.cell? ⟨q, 1, none⟩ = some (.slice (some ⟨bv, 0, none⟩) l.length cv) ∧ w'.cell? ⟨bk, m * 3, none⟩ = some (.int .i64 (nd l m).f0.f0) ∧ w'.cell? ⟨bk, m * 3 + 1, none⟩ = some (.int .i64 (nd l m).f0.f1) ∧ w'.cell? ⟨bk, m * 3 + 2, none⟩ = some (.string (nd l m).f0.f2) ∧
          w'.cell? ⟨bv, m * 3, none⟩ = some (.int .i64 (nd l m).f1.f0) ∧ w'.cell? ⟨bv, m * 3 + 1, none⟩ = some (.int .i64 (nd l m).f1.f1) ∧ w'.cell? ⟨bv, m * 3 + 2, none⟩ = some (.string (nd l m).f1.f2))
          (first | with_reducible exact ⟨far3d ne1 x0, far3d ne1 x1, far3od j0a j0b j0c e0, far3od j1a j1b j1c e1, far3od j2a j2b j2c e2, far3d ne3s h0_, far3d ne3s h1_, far3d ne3s h2_⟩ | with_reducible exact ⟨far3d ne2 x0, far3d ne2 x1, far3d ne3 e0, far3d ne3 e1, far3d ne3 e2, far3od j0a j0b j0c h0_, far3od j1a j1b j1c h1_, far3od j2a j2b j2c h2_⟩ | with_reducible exact ⟨far3d ne2 (far3 ne1 x0), far3d ne2 (far3 ne1 x1), far3d ne3 (far3o j0a j0b j0c e0), far3d ne3 (far3o j1a j1b j1c e1), far3d ne3 (far3o j2a j2b j2c e2), far3od j0a j0b j0c (far3 ne3s h0_), far3od j1a j1b j1c (far3 ne3s h1_), far3od j2a j2b j2c (far3 ne3s h2_)⟩ | with_reducible exact ⟨far3d ne1 (far3 ne2 x0), far3d ne1 (far3 ne2 x1), far3od j0a j0b j0c (far3 ne3 e0), far3od j1a j1b j1c (far3 ne3 e1), far3od j2a j2b j2c (far3 ne3 e2), far3d ne3s (far3o j0a j0b j0c h0_), far3d ne3s (far3o j1a j1b j1c h1_), far3d ne3s (far3o j2a j2b j2c h2_)⟩ | go_keep)
          (fail)
        all_goals
          go_wp2_with fail
          go_meet
          case rel =>
            have hge := IL.out.ge
            have hBw := B9.out
            have hL := IL.out
            refine ⟨Lib.hid ?_, Lib.hid ?_, (by rw [size6]; exact S9), Lib.hid ?_, Lib.hid ?_⟩
            · first
                | with_reducible exact ((hL.setK fi HRM.out.2.2.2 (nd l m).f0).setV fi HRM.out.2.2.2 (nd l m).f1).below (Below.refl _ _).drew
                | with_reducible exact ((hL.setV fi HRM.out.2.2.2 (nd l m).f1).setK fi HRM.out.2.2.2 (nd l m).f0).below (Below.refl _ _).drew
            · first
                | with_reducible exact (below3 (below3 hBw hge.2.1 _ _ _) hge.2.2.1 _ _ _).drew
                | with_reducible exact (below3 (below3 hBw hge.2.2.1 _ _ _) hge.2.1 _ _ _).drew
            · first
                | with_reducible exact (heap6 ne4 ne5).trans K9.out
                | with_reducible exact (heap6 ne5 ne4).trans K9.out
            · first
                | with_reducible exact (heap6 ne6 ne7).trans V9.out
                | with_reducible exact (heap6 ne7 ne6).trans V9.out
      case rest =>
        clear IL B9 S9 K9 V9 ne1 ne2 ne3 ne3s t1 t2 j0a j0b j0c j1a j1b j1c j2a j2b j2c f0_ f1_ f2_ g0_ g1_ g2_ x0 x1 x2 x3 x4 z0 z1 z2 y0 y1 y2 e0 e1 e2 h0_ h1_ h2_ ne4 ne5 ne6 ne7
        obtain ⟨IL, B9, S9, K9, V9⟩ := hcut
        have hml := HV.out.2.2.2
        have ne1 := IL.out.n1
        have ne2 := IL.out.n2
        have ne3 := IL.out.n3
        have ne3s := Ne.symm IL.out.n3
        have ne4 : w.heap.size ≠ bk := by omega
        have ne5 : w.heap.size ≠ bv := by omega
        have ne6 : w.heap.size + 1 ≠ bk := by omega
        have ne7 : w.heap.size + 1 ≠ bv := by omega
        have f0_ := IL.out.kfree (m * 3)
        have f1_ := IL.out.kfree (m * 3 + 1)
        have f2_ := IL.out.kfree (m * 3 + 2)
        have g0_ := IL.out.vfree (m * 3)
        have g1_ := IL.out.vfree (m * 3 + 1)
        have g2_ := IL.out.vfree (m * 3 + 2)
        obtain ⟨x0, x1, x2, x3, x4⟩ := four_of IL.out.blk
        obtain ⟨z0, z1, z2⟩ := IL.out.key m hml
        obtain ⟨y0, y1, y2⟩ := IL.out.val m hml
        obtain ⟨k0, k1, k2⟩ := three_of K9.out
        obtain ⟨v0, v1, v2⟩ := three_of V9.out
        clear hml
        go_upto_region 41 with (fail)
        go_cut [] (fun wx => RowKit.Hid (IsRL B q bk bv bc ck cv cc l.length (((ksOf l).set fi (nd l m).f0).set m k) (((vsOf l).set fi (nd l m).f1).set m v) (csOf l.length (fun j => if j = o then (C o).map (rep m fi) else C j)) fi wx) ∧ RowKit.Hid (Below B w wx))
        case first =>
          go_region_held3 (fun w' => w'.cell? ⟨q, 0, none⟩ = some (.slice (some ⟨bk, 0, none⟩) l.length ck) ∧ w'.cell? ⟨q, 1, none⟩ = some (.slice (some ⟨bv, 0, none⟩) l.length cv) ∧ w'.cell? ⟨w.heap.size, 0, none⟩ = some (.int .i64 k.f0) ∧ w'.cell? ⟨w.heap.size, 1, none⟩ = some (.int .i64 k.f1) ∧ w'.cell? ⟨w.heap.size, 2, none⟩ = some (.string k.f2) ∧
            w'.cell? ⟨w.heap.size + 1, 0, none⟩ = some (.int .i64 v.f0) ∧ w'.cell? ⟨w.heap.size + 1, 1, none⟩ = some (.int .i64 v.f1) ∧ w'.cell? ⟨w.heap.size + 1, 2, none⟩ = some (.string v.f2))
            (first | with_reducible exact ⟨far3d ne1 x0, far3d ne1 x1, far3d ne4 k0, far3d ne4 k1, far3d ne4 k2, far3d ne6 v0, far3d ne6 v1, far3d ne6 v2⟩ | with_reducible exact ⟨far3d ne2 x0, far3d ne2 x1, far3d ne5 k0, far3d ne5 k1, far3d ne5 k2, far3d ne7 v0, far3d ne7 v1, far3d ne7 v2⟩ | with_reducible exact ⟨far3d ne2 (far3 ne1 x0), far3d ne2 (far3 ne1 x1), far3d ne5 (far3 ne4 k0), far3d ne5 (far3 ne4 k1), far3d ne5 (far3 ne4 k2), far3d ne7 (far3 ne6 v0), far3d ne7 (far3 ne6 v1), far3d ne7 (far3 ne6 v2)⟩ | with_reducible exact ⟨far3d ne1 (far3 ne2 x0), far3d ne1 (far3 ne2 x1), far3d ne4 (far3 ne5 k0), far3d ne4 (far3 ne5 k1), far3d ne4 (far3 ne5 k2), far3d ne6 (far3 ne7 v0), far3d ne6 (far3 ne7 v1), far3d ne6 (far3 ne7 v2)⟩ | go_keep)
            (fail)
          all_goals
            go_wp2_with fail
            go_meet
            case rel =>
              have hge := IL.out.ge
              have hBw := B9.out
              have hL := IL.out
              refine ⟨Lib.hid ?_, Lib.hid ?_⟩
              · first
                  | with_reducible exact ((hL.setK m HV.out.2.2.2 k).setV m HV.out.2.2.2 v).below (Below.refl _ _).drew
                  | with_reducible exact ((hL.setV m HV.out.2.2.2 v).setK m HV.out.2.2.2 k).below (Below.refl _ _).drew
              · first
                  | with_reducible exact (below3 (below3 hBw hge.2.1 _ _ _) hge.2.2.1 _ _ _).drew
                  | with_reducible exact (below3 (below3 hBw hge.2.2.1 _ _ _) hge.2.1 _ _ _).drew
        case rest =>
          clear IL B9 S9 K9 V9 ne1 ne2 ne3 ne3s f0_ f1_ f2_ g0_ g1_ g2_ x0 x1 x2 x3 x4 z0 z1 z2 y0 y1 y2 k0 k1 k2 v0 v1 v2 ne4 ne5 ne6 ne7
          obtain ⟨IL, BW⟩ := hcut
          have hbz : B ≤ wc.heap.size := by have := IL.out.ge; have := IL.out.lt; omega
          obtain ⟨x0, x1, x2, x3, _⟩ := four_of IL.out.blk
          have x2a := alloc_cell x2 (.cells #[.int .i64 (m : Int)] 3)
          have HW := Lib.hid hbz
          clear hbz
          go_wp2_with (refine IsRL.storeC IL.out ((Below.refl _ _).alloc (Nat.le_refl _) _) rfl rfl (.tmp 275) (.tmp 274) rfl m HV.out.2.2.2 _ [(m : Int)] (rowI1 wc HW.out (m : Int)) rfl rfl ?_)
          intro w7 h7 hb7 _
          have Q := Lib.hid (And.intro h7 ((BW.out.trans ((below_alloc (Below.refl wc.heap.size wc) _).mono HW.out)).trans hb7))
          clear h7 hb7
          go_wp2_with fail
          go_ret2
          have hll : l.length = (((l.set qq ⟨(nd l qq).f0, (nd l qq).f1, yy⟩).set fi ⟨(nd l m).f0, (nd l m).f1, xx⟩).set m ⟨k, v, 0⟩).length := by rw [List.length_set, List.length_set, List.length_set]
          refine ⟨rfl, Q.out.1.toR hll ?_ ?_ ?_ (by rw [← hll]; exact hlen), Q.out.2⟩
          · rw [ksOf_set, ksOf_set, ksOf_set]
            have h1 : (ksOf l).set qq (nd l qq).f0 = ksOf l := by
              have h2 := set_kd (ksOf l) qq (by rw [ksOf_len]; exact (HV.out.2.1.mem o qq (by rw [HOO.out.2.2]; simp)).1)
              rw [kd_ks] at h2
              exact h2
            rw [h1]
          · rw [vsOf_set, vsOf_set, vsOf_set]
            have h1 : (vsOf l).set qq (nd l qq).f1 = vsOf l := by
              have h2 := set_kd (vsOf l) qq (by rw [vsOf_len]; exact (HV.out.2.1.mem o qq (by rw [HOO.out.2.2]; simp)).1)
              rw [kd_vs] at h2
              exact h2
            rw [h1]
          · rw [← hll]
            have h1 := csOf_set l.length (fun j => if j = o then (C o).map (rep m fi) else C j) m [m] HV.out.2.2.2
            have hnd := HV.out.2.1.nodup o
            rw [HOO.out.2.2] at hnd
            refine h1.trans ?_
            congr 1
            funext j
            have hrep : (C o).map (rep m fi) = D ++ qq :: fi :: E := by rw [HOO.out.2.2]; exact rep_chain hnd
            by_cases hjm : j = m
            · simp only [if_pos hjm]
              rw [if_neg (by rw [hjm]; exact Ne.symm HOO.out.1)]
            · simp only [if_neg hjm]
              rw [hrep]
end Go.Proofs.Ytlmmhlabacghnaa.PH
