import Derived.Test.YtaoippnipcchmaaGreatDoorPTx8
import Derived.Lib.Hide
import Derived.WalkLawsBesides
import Derived.Deep.RegionWith
import Derived.Deep.LoopGhost
import Derived.StillTailTactics
import Derived.Test.YtaoippnipcchmaaGreatDoorMA
import Derived.BigRegion
/- TopCode: the parser's state in memory; now, is, got, ends, want. -/
namespace Go.Proofs.YtaoippnipcchmaaGreatDoor.PT
open Go.RowKit Go.Proofs.YtaoippnipcchmaaGreatDoorW.PrintWords Go.Proofs.YtaoippnipcchmaaGreatDoorW.PrintLast Go.Proofs.YtaoippnipcchmaaGreatDoorW.PrintMore
set_option linter.unusedVariables false
set_option linter.unusedSimpArgs false

abbrev Tk := S88
theorem toList_data (x : ByteArray) : x.toList = x.data.toList := by
  first | exact ByteArray.toList_eq x | simp
theorem alloc_cell {w : World} {p : Addr} {v : Value} (h : w.cell? p = some v) (o : Obj) : (w.alloc o).cell? p = some v :=
  ((((Below.refl w.heap.size w).alloc (Nat.le_refl _) o)).cell (World.block_lt_of_cell? w _ h)).trans h
theorem two_of {w : World} {g : Nat} {x y : Value} {t : TypeId} (h : w.heap[g]? = some (.cells #[x, y] t (0, 0))) : w.cell? ⟨g, 0, none⟩ = some x ∧ w.cell? ⟨g, 1, none⟩ = some y ∧ w.frozen? ⟨g, 0, none⟩ = false ∧ w.frozen? ⟨g, 1, none⟩ = false :=
  ⟨(blk_cell h 0).trans rfl, (blk_cell h 1).trans rfl, blk_frozen h 0, blk_frozen h 1⟩
theorem four_of {w : World} {g : Nat} {x y z u : Value} {t : TypeId} (h : w.heap[g]? = some (.cells #[x, y, z, u] t (0, 0))) : w.cell? ⟨g, 0, none⟩ = some x ∧ w.cell? ⟨g, 1, none⟩ = some y ∧ w.cell? ⟨g, 2, none⟩ = some z ∧ w.cell? ⟨g, 3, none⟩ = some u :=
  ⟨(blk_cell h 0).trans rfl, (blk_cell h 1).trans rfl, (blk_cell h 2).trans rfl, (blk_cell h 3).trans rfl⟩
theorem four_set {w : World} {G : Nat} {t : TypeId} {a b c d : Value} (x0 x1 x2 x3 : Value) (hn : w.heap[G]? = some (.cells #[a, b, c, d] t (0, 0))) {B : Nat} (hB : B ≤ G) {W0 : World} (hb : Below B W0 w) :
    ((((w.setCell ⟨G, 0, none⟩ x0).setCell ⟨G, 1, none⟩ x1).setCell ⟨G, 2, none⟩ x2).setCell ⟨G, 3, none⟩ x3).heap[G]? = some (.cells #[x0, x1, x2, x3] t (0, 0)) ∧ Below B W0 ((((w.setCell ⟨G, 0, none⟩ x0).setCell ⟨G, 1, none⟩ x1).setCell ⟨G, 2, none⟩ x2).setCell ⟨G, 3, none⟩ x3) := by
  refine ⟨?_, (((hb.setCell (p := ⟨G, 0, none⟩) hB x0).setCell (p := ⟨G, 1, none⟩) hB x1).setCell (p := ⟨G, 2, none⟩) hB x2).setCell (p := ⟨G, 3, none⟩) hB x3⟩
  refine blk_put (cs := #[x0, x1, x2, d]) ?_ 3 _ rfl
  refine blk_put (cs := #[x0, x1, c, d]) ?_ 2 _ rfl
  refine blk_put (cs := #[x0, b, c, d]) ?_ 1 _ rfl
  refine blk_put (cs := #[a, b, c, d]) ?_ 0 _ rfl
  exact hn
/-- Below the heap's size all blocks but those in c are as they were. -/
structure Fr (c : Nat → Prop) (w w' : World) : Prop where
  os : w'.os = w.os
  tape : w'.tape = w.tape
  output : w'.output = w.output
  size : w.heap.size ≤ w'.heap.size
  block : ∀ k, k < w.heap.size → ¬ c k → w'.heap[k]? = w.heap[k]?
theorem Fr.refl (c : Nat → Prop) (w : World) : Fr c w w := ⟨rfl, rfl, rfl, Nat.le_refl _, fun _ _ _ => rfl⟩
theorem Fr.of_below {c : Nat → Prop} {w w' : World} (h : Below w.heap.size w w') : Fr c w w' := ⟨h.os, h.tape, h.output, h.size, fun k hk _ => h.block k hk⟩
theorem Fr.trans {c : Nat → Prop} {x y z : World} (h : Fr c x y) (k : Fr c y z) : Fr c x z :=
  ⟨k.os.trans h.os, k.tape.trans h.tape, k.output.trans h.output, Nat.le_trans h.size k.size, fun i hi hc => (k.block i (Nat.lt_of_lt_of_le hi h.size) hc).trans (h.block i hi hc)⟩
theorem Fr.imp {c c' : Nat → Prop} {w w' : World} (h : Fr c w w') (hc : ∀ k, c k → c' k) : Fr c' w w' := ⟨h.os, h.tape, h.output, h.size, fun k hk hn => h.block k hk (fun hk' => hn (hc k hk'))⟩
theorem Fr.set {c : Nat → Prop} {w : World} {p : Addr} (h : c p.block) (v : Value) : Fr c w (w.setCell p v) :=
  ⟨rfl, rfl, rfl, by simp, fun k hk hn => Below.heap_setCell w p v k (fun e => hn (e ▸ h))⟩
/-- What lies below B, all of c above it. -/
theorem Fr.below {c : Nat → Prop} {w w' : World} {B : Nat} (h : Fr c w w') (hB : B ≤ w.heap.size) (hc : ∀ k, c k → B ≤ k) : Below B w w' :=
  ⟨h.os, h.tape, h.output, h.size, fun k hk => h.block k (by omega) (fun hk' => by have := hc k hk'; omega)⟩

def tk (T : List Tk) (i : Nat) : Tk := T.getD i z88
def tv (t : Tk) : Value := .agg #[.int .i64 t.f0, .string t.f1, .int .i64 t.f2, .int .i64 t.f3]
theorem at_tk {w : World} {A : Option Addr} {n : Nat} {T : List Tk} (h : Kd.C k88 w A n T) (i : Nat) (h1 : i < n) : ∃ ad, A = some ad ∧ w.cell? (ad.add (i * 4)) = some (.int .i64 (tk T i).f0) ∧
    w.cell? ⟨(ad.add (i * 4)).block, (ad.add (i * 4)).off + 1, none⟩ = some (.string (tk T i).f1) ∧ w.cell? ⟨(ad.add (i * 4)).block, (ad.add (i * 4)).off + 2, none⟩ = some (.int .i64 (tk T i).f2) ∧ w.cell? ⟨(ad.add (i * 4)).block, (ad.add (i * 4)).off + 3, none⟩ = some (.int .i64 (tk T i).f3) := by
  obtain ⟨ad, e, h0, h2, h3, h4⟩ := at_T88 h (i : Int) (by omega) (by omega)
  rw [Int.toNat_natCast] at h0 h2 h3 h4
  have hr : rd_T88 T (i : Int) = tk T i := by unfold rd_T88 tk; rw [Int.toNat_natCast]
  rw [hr] at h0 h2 h3 h4
  exact ⟨ad, e, h0, h2, h3, h4⟩
/-- The parser at block g: its tokens T in a row at block a, ahead of token i. -/
structure Par (g a c : Nat) (T : List Tk) (i : Nat) (w : World) : Prop where
  blk : w.heap[g]? = some (.cells #[.slice (some ⟨a, 0, none⟩) T.length c, .int .i64 i] 85 (0, 0))
  tok : Kd.R k88 88 w 0 (fun k => k = a) (.slice (some ⟨a, 0, none⟩) T.length c) T
  ne : g ≠ a
  len : T.length ≤ 65536
section
variable {g a c i : Nat} {T : List Tk} {w w' : World}
theorem Par.below (h : Par g a c T i w) (hb : Below w.heap.size w w') : Par g a c T i w' :=
  ⟨(hb.block g (Array.getElem?_eq_some_iff.1 h.blk).1).trans h.blk, Kd.R_below h.tok hb, h.ne, h.len⟩
theorem Par.lt (h : Par g a c T i w) : g < w.heap.size := (Array.getElem?_eq_some_iff.1 h.blk).1
theorem Par.set (h : Par g a c T i w) (j : Nat) : Par g a c T j (w.setCell ⟨g, 1, none⟩ (.int .i64 j)) :=
  ⟨blk_put (cs := #[.slice (some ⟨a, 0, none⟩) T.length c, .int .i64 i]) h.blk 1 _ rfl, Kd.R_far h.tok (fun k hk => by rw [hk]; exact fun e => h.ne e.symm) _, h.ne, h.len⟩
theorem Par.at (h : Par g a c T i w) (j : Nat) (hj : j < T.length) : w.cell? ⟨a, j * 4, none⟩ = some (.int .i64 (tk T j).f0) ∧ w.cell? ⟨a, j * 4 + 1, none⟩ = some (.string (tk T j).f1) ∧ w.cell? ⟨a, j * 4 + 2, none⟩ = some (.int .i64 (tk T j).f2) ∧ w.cell? ⟨a, j * 4 + 3, none⟩ = some (.int .i64 (tk T j).f3) := by
  obtain ⟨cs, hcl, hM, hc, hfz⟩ := Kd.R_elem h.tok z88 (j : Int) (by omega) (by omega)
  rw [Int.toNat_natCast] at hM hc
  obtain rfl := k88_openM hM
  exact ⟨hc 0 _ rfl, hc 1 _ rfl, hc 2 _ rfl, hc 3 _ rfl⟩
set_option maxHeartbeats 1000000 in
set_option maxRecDepth 100000 in
theorem now_call (h : Par g a c T i w) (hi : i < T.length) : Calls Tryz.prog 18 #[.pointer (some ⟨g, 0, none⟩)] w fun e w' => e = .returned (tv (tk T i)) ∧ Below w.heap.size w w' := by
  have H := Lib.hid h
  have p1 : 0 ≤ (i : Int) := by omega
  have p2 : (i : Int) < (T.length : Int) := by omega
  have hlen := h.len
  have hii : (i : Int) ≤ 65536 := by omega
  replace p1 := eq_true p1
  replace p2 := eq_true p2
  have HI := Lib.hid hi
  clear h hi
  go_enter Tryz.func18, Tryz.ntmps18
  go_wp2_with fail
  obtain ⟨w1, hw1, hb1, hn1⟩ : ∃ w1, w.alloc (.cells #[.int .i64 0, .string (⟨#[]⟩ : ByteArray), .int .i64 0, .int .i64 0] 88) = w1 ∧ Below w.heap.size w w1 ∧ w1.heap[w.heap.size]? = some (.cells #[.int .i64 0, .string (⟨#[]⟩ : ByteArray), .int .i64 0, .int .i64 0] 88 (0, 0)) :=
    ⟨_, rfl, (Below.refl _ _).alloc (Nat.le_refl _) _, heap_alloc_new _ _⟩
  rw [hw1]
  have H1 := Lib.hid (H.out.below hb1)
  have HB := Lib.hid (And.intro hb1 hn1)
  clear hb1 hn1 hw1
  obtain ⟨x0, x1, _, _⟩ := two_of H1.out.blk
  obtain ⟨e0, e1, e2, e3⟩ := H1.out.at i HI.out
  obtain ⟨z0, z1, z2, z3⟩ := four_of HB.out.2
  have u0 := blk_frozen HB.out.2 0
  have u1 := blk_frozen HB.out.2 1
  have u2 := blk_frozen HB.out.2 2
  have u3 := blk_frozen HB.out.2 3
  have hmx : Tryz.prog.follows .mixedOrders = true := by kernel_rfl
  go_still_tail 10, (by kernel_rfl)
  change wpList _ _ _ _ _ w1.drew
  go_wp2_with fail
  obtain ⟨hb, hn⟩ := HB.out
  obtain ⟨G, hG⟩ : ∃ G, w.heap.size = G := ⟨_, rfl⟩
  rw [hG] at hb hn ⊢
  clear HB z0 z1 z2 z3 u0 u1 u2 u3 e0 e1 e2 e3 x0 x1
  obtain ⟨hg, hB⟩ := four_set (w := w1.drew) (.int .i64 (tk T i).f0) (.string (tk T i).f1) (.int .i64 (tk T i).f2) (.int .i64 (tk T i).f3) (blk_drew hn) (Nat.le_refl G) hb.drew
  exact bodyPost_ret (results_cell_row rfl _ _ G 88 _ (0, 0) _ rfl hg Tryz.underlying88 rfl (by kernel_rfl)) rfl ⟨rfl, hB⟩
end
end Go.Proofs.YtaoippnipcchmaaGreatDoor.PT
/- TopCode: the parser's is, got, ends, want. -/
namespace Go.Proofs.YtaoippnipcchmaaGreatDoor.PT
open Go.RowKit Go.Proofs.YtaoippnipcchmaaGreatDoorW.PrintWords Go.Proofs.YtaoippnipcchmaaGreatDoorW.PrintLast Go.Proofs.YtaoippnipcchmaaGreatDoorW.PrintMore
set_option linter.unusedVariables false
set_option linter.unusedSimpArgs false

/-- Is the token that word or sign? -/
def isB (t : Tk) (s : ByteArray) : Bool := (t.f0 == 2 || t.f0 == 5) && (t.f1.toList == s.toList)
section
variable {g a c i : Nat} {T : List Tk} {w w' : World}
set_option maxHeartbeats 4000000 in
set_option maxRecDepth 100000 in
theorem is_call (h : Par g a c T i w) (hi : i < T.length) (s : ByteArray) : Calls Tryz.prog 33 #[.pointer (some ⟨g, 0, none⟩), .string s] w fun e w' => e = .returned (.bool (isB (tk T i) s)) ∧ Below w.heap.size w w' := by
  have H := Lib.hid h
  have HI := Lib.hid hi
  unfold isB
  clear h hi
  cases h1 : ((tk T i).f0 == 2) <;> cases h2 : ((tk T i).f0 == 5) <;> cases h3 : ((tk T i).f1.toList == s.toList)
  all_goals
    go_enter Tryz.func33, Tryz.ntmps33
    go_wp2_with fail
    refine (now_call H.out HI.out).mono ?_
    rintro e w1 ⟨rfl, hb1⟩
    unfold tv
    have B1 := Lib.hid hb1
    clear hb1
    go_wp2_with fail
    go_ret
    exact ⟨rfl, below_alloc B1.out _⟩
set_option maxHeartbeats 4000000 in
set_option maxRecDepth 100000 in
theorem got_no (h : Par g a c T i w) (hi : i < T.length) (s : ByteArray) (hs : isB (tk T i) s = false) : Calls Tryz.prog 31 #[.pointer (some ⟨g, 0, none⟩), .string s] w fun e w' => e = .returned (.bool false) ∧ Below w.heap.size w w' := by
  have hx := is_call h hi s
  rw [hs] at hx
  clear h hi hs
  go_enter Tryz.func31, Tryz.ntmps31
  go_wp2_with fail
  refine hx.mono ?_
  rintro e w1 ⟨rfl, hb1⟩
  have B1 := Lib.hid hb1
  clear hb1 hx
  go_wp2_with fail
  go_ret
  exact ⟨rfl, B1.out⟩
set_option maxHeartbeats 4000000 in
set_option maxRecDepth 100000 in
theorem got_yes (h : Par g a c T i w) (hi : i < T.length) (s : ByteArray) (hs : isB (tk T i) s = true) : Calls Tryz.prog 31 #[.pointer (some ⟨g, 0, none⟩), .string s] w fun e w' => e = .returned (.bool true) ∧ Par g a c T (i + 1) w' ∧ Fr (fun k => k = g) w w' := by
  have hx := is_call h hi s
  rw [hs] at hx
  have H := Lib.hid h
  have hlen := h.len
  have hii : (i : Int) ≤ 65536 := by omega
  clear h hi hs
  go_enter Tryz.func31, Tryz.ntmps31
  go_wp2_with fail
  refine hx.mono ?_
  rintro e w1 ⟨rfl, hb1⟩
  have B1 := Lib.hid hb1
  have H1 := Lib.hid (H.out.below hb1)
  obtain ⟨x0, x1, f0, f1⟩ := two_of H1.out.blk
  clear hb1 hx
  go_wp2_with fail
  go_ret
  exact ⟨rfl, H1.out.set (i + 1), (Fr.of_below B1.out).trans (Fr.set (c := fun k => k = g) (p := ⟨g, 1, none⟩) rfl _)⟩
set_option maxHeartbeats 4000000 in
set_option maxRecDepth 100000 in
theorem want_call (h : Par g a c T i w) (hi : i < T.length) (s : ByteArray) (hs : isB (tk T i) s = true) : Calls Tryz.prog 56 #[.pointer (some ⟨g, 0, none⟩), .string s] w fun e w' => e = .returned (.tuple #[]) ∧ Par g a c T (i + 1) w' ∧ Fr (fun k => k = g) w w' := by
  have hx := got_yes h hi s hs
  clear h hi hs
  go_enter Tryz.func56, Tryz.ntmps56
  go_wp2_with fail
  refine hx.mono ?_
  rintro e w1 ⟨rfl, hP, hF⟩
  have Q := Lib.hid (And.intro hP hF)
  clear hP hF hx
  go_wp2_with fail
  go_end0
  exact ⟨rfl, Q.out⟩
/-- Does a block end at that token? -/
def endB (t : Tk) : Bool := t.f0 == 6 || isB t ⟨#[101, 110, 100]⟩ || isB t ⟨#[101, 108, 115, 101]⟩ || isB t ⟨#[101, 108, 115, 101, 105, 102]⟩
set_option maxHeartbeats 4000000 in
set_option maxRecDepth 100000 in
theorem ends_end (h : Par g a c T i w) (hi : i < T.length) (hk : (tk T i).f0 = 6) : Calls Tryz.prog 32 #[.pointer (some ⟨g, 0, none⟩)] w fun e w' => e = .returned (.bool true) ∧ Below w.heap.size w w' := by
  have hx := now_call h hi
  have hf := Tryz.isAgg88
  have hfl : ∀ (x0 : Int) (x1 : ByteArray) (x2 x3 : Int) (w : World), (Instr.field 88 (.agg #[.int .i64 x0, .string x1, .int .i64 x2, .int .i64 x3]) 0).run Tryz.prog w = .ok (.int .i64 x0) w := fun _ _ _ _ _ => by kernel_rfl
  have hb : ((tk T i).f0 == 6) = true := beq_iff_eq.2 hk
  clear h hi hk
  unfold tv at hx
  go_enter Tryz.func32, Tryz.ntmps32
  go_wp2_with fail
  refine hx.mono ?_
  rintro e w1 ⟨rfl, hb1⟩
  have B1 := Lib.hid hb1
  clear hb1 hx
  go_wp2_with fail
  go_ret
  exact ⟨rfl, B1.out⟩
set_option maxHeartbeats 4000000 in
set_option maxRecDepth 100000 in
theorem ends_no (h : Par g a c T i w) (hi : i < T.length) (hk : (tk T i).f0 ≠ 6) (h1 : isB (tk T i) ⟨#[101, 110, 100]⟩ = false) (h2 : isB (tk T i) ⟨#[101, 108, 115, 101]⟩ = false) (h3 : isB (tk T i) ⟨#[101, 108, 115, 101, 105, 102]⟩ = false) : Calls Tryz.prog 32 #[.pointer (some ⟨g, 0, none⟩)] w fun e w' => e = .returned (.bool false) ∧ Below w.heap.size w w' := by
  have hx := now_call h hi
  have H := Lib.hid h
  have HI := Lib.hid hi
  have hfl : ∀ (x0 : Int) (x1 : ByteArray) (x2 x3 : Int) (w : World), (Instr.field 88 (.agg #[.int .i64 x0, .string x1, .int .i64 x2, .int .i64 x3]) 0).run Tryz.prog w = .ok (.int .i64 x0) w := fun _ _ _ _ _ => by kernel_rfl
  have hb : ((tk T i).f0 == 6) = false := beq_eq_false_iff_ne.2 hk
  have HE := Lib.hid (And.intro h1 (And.intro h2 h3))
  clear h hi hk h1 h2 h3
  unfold tv at hx
  go_enter Tryz.func32, Tryz.ntmps32
  go_wp2_with fail
  refine hx.mono ?_
  rintro e w1 ⟨rfl, hb1⟩
  have B1 := Lib.hid hb1
  clear hb1 hx
  go_wp2_with fail
  have hy := is_call (H.out.below B1.out) HI.out ⟨#[101, 110, 100]⟩
  rw [HE.out.1] at hy
  refine hy.mono ?_
  rintro e w2 ⟨rfl, hb2⟩
  have B2 := Lib.hid (B1.out.trans (hb2.mono B1.out.size))
  clear hb2 hy B1
  go_wp2_with fail
  have hy := is_call (H.out.below B2.out) HI.out ⟨#[101, 108, 115, 101]⟩
  rw [HE.out.2.1] at hy
  refine hy.mono ?_
  rintro e w3 ⟨rfl, hb3⟩
  have B3 := Lib.hid (B2.out.trans (hb3.mono B2.out.size))
  clear hb3 hy B2
  go_wp2_with fail
  have hy := is_call (H.out.below B3.out) HI.out ⟨#[101, 108, 115, 101, 105, 102]⟩
  rw [HE.out.2.2] at hy
  refine hy.mono ?_
  rintro e w4 ⟨rfl, hb4⟩
  have B4 := Lib.hid (B3.out.trans (hb4.mono B3.out.size))
  clear hb4 hy B3
  go_wp2_with fail
  go_ret
  exact ⟨rfl, B4.out⟩
end
end Go.Proofs.YtaoippnipcchmaaGreatDoor.PT
/- TopCode: nodes in memory; tokens met; how much operators bind. -/
namespace Go.Proofs.YtaoippnipcchmaaGreatDoor.PT
open Go.RowKit Go.Proofs.YtaoippnipcchmaaGreatDoorW.PrintWords Go.Proofs.YtaoippnipcchmaaGreatDoorW.PrintLast Go.Proofs.YtaoippnipcchmaaGreatDoorW.PrintMore
open Go.Proofs.YtaoippnipcchmaaGreatDoor.TP
set_option linter.unusedVariables false
set_option linter.unusedSimpArgs false

abbrev Nd := S51
abbrev RN (w : World) (B : Nat) (v : Value) (xs : List Nd) : Prop := Kd.R k51 51 w B (fun _ => True) v xs
theorem RN.fr {w w' : World} {B : Nat} {v : Value} {xs : List Nd} {c : Nat → Prop} (h : RN w B v xs) (hF : Fr c w w') (hc : ∀ k, c k → k < B) : RN w' B v xs :=
  Kd.R_mono (Kd.R_step (Kd.R_bound h) (fun k hk hlt => hF.block k hlt (fun e => by have := hc k e; have := hk.2.1; omega))) (fun _ _ => trivial)
theorem RN.below {w w' : World} {B : Nat} {v : Value} {xs : List Nd} (h : RN w B v xs) (hb : Below w.heap.size w w') : RN w' B v xs := Kd.R_below h hb
/-- A node as a value. -/
def ncs (x : Nd) (sl : Value) : List Value := [.int .i64 x.f0, .string x.f1, .int .i64 x.f2, .int .i64 x.f3, sl]
theorem ncs_M {w : World} {B : Nat} {x : Nd} {sl : Value} {ok : Nat → Prop} (h : Kd.R k51 51 w B ok sl x.f4) : k51.M w B ok x (ncs x sl) := k51_mkM w B ok x h
/-- A row of one node, of two. -/
theorem row1 {w : World} {B : Nat} {ok : Nat → Prop} (hB : B ≤ w.heap.size) (hok : ok w.heap.size) (x : Nd) {sl : Value} (h : Kd.R k51 51 w B ok sl x.f4) : Kd.R k51 51 (w.alloc (.cells #[.int .i64 x.f0, .string x.f1, .int .i64 x.f2, .int .i64 x.f3, sl] 51)) B ok (.slice (some ⟨w.heap.size, 0, none⟩) 1 1) [x] := by
  have ho := World.ownsRow_lit (base := B) (e := 51) (size := 5) w #[.int .i64 x.f0, .string x.f1, .int .i64 x.f2, .int .i64 x.f3, sl] 1 hB (by simp [maxLen]) rfl
  refine ⟨fun k hk => ?_, _, ho, ?_⟩
  · have e : w.heap.size = k := by simpa [Value.ownBlock] using hk
    rw [← e]; exact hok
  have hm := ncs_M (Kd.R_below (Kd.R_elderB h w.heap.size (Nat.le_refl _)) (below_alloc (Below.refl _ _) (.cells #[.int .i64 x.f0, .string x.f1, .int .i64 x.f2, .int .i64 x.f3, sl] 51)))
  have hr := (Reps.none (k51.M (w.alloc (.cells #[.int .i64 x.f0, .string x.f1, .int .i64 x.f2, .int .i64 x.f3, sl] 51)) B (fun k => ok k ∧ k ≠ w.heap.size)) 5).snoc hm rfl
  exact hr.imp_ (fun p c hp => Kd.M_mono _ (fun k hk => ⟨hk.1, fun e => hk.2 (by simpa [Value.ownBlock] using e)⟩) hp)
theorem row2 {w : World} {B : Nat} {ok : Nat → Prop} (hB : B ≤ w.heap.size) (hok : ok w.heap.size) (x y : Nd) {sl tl : Value} (h : Kd.R k51 51 w B ok sl x.f4) (h' : Kd.R k51 51 w B ok tl y.f4) : Kd.R k51 51 (w.alloc (.cells #[.int .i64 x.f0, .string x.f1, .int .i64 x.f2, .int .i64 x.f3, sl, .int .i64 y.f0, .string y.f1, .int .i64 y.f2, .int .i64 y.f3, tl] 51)) B ok (.slice (some ⟨w.heap.size, 0, none⟩) 2 2) [x, y] := by
  have ho := World.ownsRow_lit (base := B) (e := 51) (size := 5) w #[.int .i64 x.f0, .string x.f1, .int .i64 x.f2, .int .i64 x.f3, sl, .int .i64 y.f0, .string y.f1, .int .i64 y.f2, .int .i64 y.f3, tl] 2 hB (by simp [maxLen]) rfl
  refine ⟨fun k hk => ?_, _, ho, ?_⟩
  · have e : w.heap.size = k := by simpa [Value.ownBlock] using hk
    rw [← e]; exact hok
  have hm := ncs_M (Kd.R_below (Kd.R_elderB h w.heap.size (Nat.le_refl _)) (below_alloc (Below.refl _ _) (.cells #[.int .i64 x.f0, .string x.f1, .int .i64 x.f2, .int .i64 x.f3, sl, .int .i64 y.f0, .string y.f1, .int .i64 y.f2, .int .i64 y.f3, tl] 51)))
  have hm' := ncs_M (Kd.R_below (Kd.R_elderB h' w.heap.size (Nat.le_refl _)) (below_alloc (Below.refl _ _) (.cells #[.int .i64 x.f0, .string x.f1, .int .i64 x.f2, .int .i64 x.f3, sl, .int .i64 y.f0, .string y.f1, .int .i64 y.f2, .int .i64 y.f3, tl] 51)))
  have hr := ((Reps.none (k51.M (w.alloc (.cells #[.int .i64 x.f0, .string x.f1, .int .i64 x.f2, .int .i64 x.f3, sl, .int .i64 y.f0, .string y.f1, .int .i64 y.f2, .int .i64 y.f3, tl] 51)) B (fun k => ok k ∧ k ≠ w.heap.size)) 5).snoc hm rfl).snoc hm' rfl
  exact hr.imp_ (fun p c hp => Kd.M_mono _ (fun k hk => ⟨hk.1, fun e => hk.2 (by simpa [Value.ownBlock] using e)⟩) hp)
/-- The trees of the expressions. -/
inductive Tr where
  | leaf (n : Nat)
  | one (kind : Int) (t : List UInt8) (x : Tr)
  | two (t : List UInt8) (x y : Tr)
def bs (l : List UInt8) : ByteArray := ⟨⟨l⟩⟩
def Sh : Tr → Nd → Prop
  | .leaf n, x => x.f0 = 4 ∧ x.f1 = bs [] ∧ x.f2 = n ∧ x.f4 = []
  | .one k t y, x => x.f0 = k ∧ x.f1 = bs t ∧ x.f2 = 0 ∧ ∃ z, x.f4 = [z] ∧ Sh y z
  | .two t a b, x => x.f0 = 11 ∧ x.f1 = bs t ∧ x.f2 = 0 ∧ ∃ y z, x.f4 = [y, z] ∧ Sh a y ∧ Sh b z
/-- What stands in the parentheses of an operation; the tree of an expression. -/
def inner : Ex → Tr → Tr → Tr
  | .num n, _, _ => .leaf n
  | .op o _ _, x, y => .two (opT o) x y
  | .neg _, x, _ => .one 10 [45] x
def treeOf : Ex → Tr
  | .num n => .leaf n
  | .op o a b => .one 9 [] (.two (opT o) (treeOf a) (treeOf b))
  | .neg a => .one 9 [] (.one 10 [45] (treeOf a))
/-- A node's value, its rows at B or above. -/
def NV (w : World) (B : Nat) (x : Nd) (v : Value) : Prop := ∃ A c, v = .agg #[.int .i64 x.f0, .string x.f1, .int .i64 x.f2, .int .i64 x.f3, .slice A x.f4.length c] ∧ RN w B (.slice A x.f4.length c) x.f4
/-- A token is met. -/
def Mt (t : Tok) (x : Tk) : Prop := x.f0 = t.kind ∧ x.f1 = bs t.text ∧ x.f2 = t.n
theorem isB_mt {t : Tok} {x : Tk} (h : Mt t x) (s : List UInt8) : isB x (bs s) = ((t.kind == 2 || t.kind == 5) && (t.text == s)) := by
  obtain ⟨h0, h1, _⟩ := h
  unfold isB
  rw [h0, h1, toList_data, toList_data]
  rfl
/-- These tokens come from token i on. -/
def Toks (T : List Tk) (i : Nat) (l : List Tok) : Prop := ∀ j t, l[j]? = some t → i + j < T.length ∧ Mt t (tk T (i + j))
theorem Toks.head {T : List Tk} {i : Nat} {t : Tok} {l : List Tok} (h : Toks T i (t :: l)) : i < T.length ∧ Mt t (tk T i) := h 0 t rfl
theorem Toks.tail {T : List Tk} {i : Nat} {t : Tok} {l : List Tok} (h : Toks T i (t :: l)) : Toks T (i + 1) l := fun j u hu => by
  have := h (j + 1) u (by simpa using hu)
  rw [show i + 1 + j = i + (j + 1) by omega]
  exact this
theorem Toks.left {T : List Tk} {i : Nat} {l m : List Tok} (h : Toks T i (l ++ m)) : Toks T i l := fun j t ht => h j t (by rw [List.getElem?_append_left (List.getElem?_eq_some_iff.1 ht).1]; exact ht)
theorem Toks.right {T : List Tk} {i : Nat} {l m : List Tok} (h : Toks T i (l ++ m)) : Toks T (i + l.length) m := fun j t ht => by
  rw [Nat.add_assoc]
  exact h _ t (by rw [List.getElem?_append_right (by omega)]; simpa using ht)
/-- How much a token binds. -/
def opB : Nat → Int
  | 1 => 5
  | 2 => 5
  | 3 => 6
  | 5 => 2
  | _ => 1
theorem binds_op {o : Nat} (ho : o = 1 ∨ o = 2 ∨ o = 3 ∨ o = 5 ∨ o = 6) {x : Tk} (h : Mt (tOp o) x) : parse_binds.f 5 x.f0 x.f1 x.f2 x.f3 = some (opB o) := by
  obtain ⟨h0, h1, h2⟩ := h
  rw [h0, h1]
  rcases ho with rfl | rfl | rfl | rfl | rfl <;> kernel_rfl
theorem binds_close {x : Tk} (h : Mt tClose x) : parse_binds.f 5 x.f0 x.f1 x.f2 x.f3 = some 0 := by
  obtain ⟨h0, h1, h2⟩ := h
  rw [h0, h1]
  kernel_rfl
theorem binds_end {x : Tk} (h : Mt tEnd x) : parse_binds.f 5 x.f0 x.f1 x.f2 x.f3 = some 0 := by
  obtain ⟨h0, h1, h2⟩ := h
  rw [h0, h1]
  kernel_rfl
theorem toks_pos (e : Ex) : 1 ≤ e.toks.length := by cases e <;> simp [Ex.toks]
end Go.Proofs.YtaoippnipcchmaaGreatDoor.PT
/- TopCode: the parser's exp, where no operator follows that binds more. -/
namespace Go.Proofs.YtaoippnipcchmaaGreatDoor.PT
open Go.RowKit Go.Proofs.YtaoippnipcchmaaGreatDoorW.PrintWords Go.Proofs.YtaoippnipcchmaaGreatDoorW.PrintLast Go.Proofs.YtaoippnipcchmaaGreatDoorW.PrintMore
open Go.Proofs.YtaoippnipcchmaaGreatDoor.TP
set_option linter.unusedVariables false
set_option linter.unusedSimpArgs false

/-- What a call of the parser's comes to: a node of that shape, the parser at token j. -/
def Res (T : List Tk) (g a c : Nat) (t : Tr) (j : Nat) (w : World) (r : Ending) (w' : World) : Prop := ∃ v x, r = .returned v ∧ NV w' w.heap.size x v ∧ Sh t x ∧ Par g a c T j w' ∧ Fr (fun k => k = g) w w'
theorem five_of {w : World} {g : Nat} {x y z u v : Value} {t : TypeId} (h : w.heap[g]? = some (.cells #[x, y, z, u, v] t (0, 0))) : w.cell? ⟨g, 0, none⟩ = some x ∧ w.cell? ⟨g, 1, none⟩ = some y ∧ w.cell? ⟨g, 2, none⟩ = some z ∧ w.cell? ⟨g, 3, none⟩ = some u ∧ w.cell? ⟨g, 4, none⟩ = some v :=
  ⟨(blk_cell h 0).trans rfl, (blk_cell h 1).trans rfl, (blk_cell h 2).trans rfl, (blk_cell h 3).trans rfl, (blk_cell h 4).trans rfl⟩
theorem five_set {w : World} {G : Nat} {t : TypeId} {a b c d e : Value} (x0 x1 x2 x3 x4 : Value) (hn : w.heap[G]? = some (.cells #[a, b, c, d, e] t (0, 0))) :
    (((((w.setCell ⟨G, 0, none⟩ x0).setCell ⟨G, 1, none⟩ x1).setCell ⟨G, 2, none⟩ x2).setCell ⟨G, 3, none⟩ x3).setCell ⟨G, 4, none⟩ x4).heap[G]? = some (.cells #[x0, x1, x2, x3, x4] t (0, 0)) := by
  refine blk_put (cs := #[x0, x1, x2, x3, e]) ?_ 4 _ rfl
  refine blk_put (cs := #[x0, x1, x2, d, e]) ?_ 3 _ rfl
  refine blk_put (cs := #[x0, x1, c, d, e]) ?_ 2 _ rfl
  refine blk_put (cs := #[x0, b, c, d, e]) ?_ 1 _ rfl
  refine blk_put (cs := #[a, b, c, d, e]) ?_ 0 _ rfl
  exact hn
theorem five_fr {w : World} {G : Nat} (x0 x1 x2 x3 x4 : Value) : Fr (fun k => k = G) w (((((w.setCell ⟨G, 0, none⟩ x0).setCell ⟨G, 1, none⟩ x1).setCell ⟨G, 2, none⟩ x2).setCell ⟨G, 3, none⟩ x3).setCell ⟨G, 4, none⟩ x4) :=
  ((((Fr.set (c := fun k => k = G) (p := ⟨G, 0, none⟩) rfl x0).trans (Fr.set (c := fun k => k = G) (p := ⟨G, 1, none⟩) rfl x1)).trans (Fr.set (c := fun k => k = G) (p := ⟨G, 2, none⟩) rfl x2)).trans (Fr.set (c := fun k => k = G) (p := ⟨G, 3, none⟩) rfl x3)).trans (Fr.set (c := fun k => k = G) (p := ⟨G, 4, none⟩) rfl x4)
/-- The changed blocks are all new. -/
theorem Fr.new {c : Nat → Prop} {w0 w w' : World} {d : Nat → Prop} (h0 : Fr d w0 w) (h : Fr c w w') (hc : ∀ k, c k → d k ∨ w0.heap.size ≤ k) : Fr d w0 w' :=
  ⟨h.os.trans h0.os, h.tape.trans h0.tape, h.output.trans h0.output, Nat.le_trans h0.size h.size, fun k hk hn => (h.block k (Nat.lt_of_lt_of_le hk h0.size) (fun e => by rcases hc k e with h1 | h1; exact hn h1; omega)).trans (h0.block k hk hn)⟩
theorem Par.fr {g a c i : Nat} {T : List Tk} {w w' : World} {d : Nat → Prop} (h : Par g a c T i w) (hF : Fr d w w') (hd : ∀ k, d k → k ≠ g ∧ k ≠ a) : Par g a c T i w' :=
  ⟨(hF.block g h.lt (fun e => (hd g e).1 rfl)).trans h.blk, Kd.R_step h.tok (fun k hk hlt => hF.block k hlt (fun e => by subst hk; exact (hd k e).2 rfl)), h.ne, h.len⟩
theorem Par.alt {g a c i : Nat} {T : List Tk} {w : World} (h : Par g a c T i w) : a < w.heap.size := Kd.R_lt h.tok a (by simp [Value.ownBlock])
set_option maxHeartbeats 4000000 in
set_option maxRecDepth 100000 in
theorem exp_one {T : List Tk} {g a c j : Nat} {t : Tr} {w : World} (i : Nat) (hP : Par g a c T i w) (least b : Int)
    (hop : ∀ w, Par g a c T i w → Calls Tryz.prog 95 #[.pointer (some ⟨g, 0, none⟩)] w (Res T g a c t j w)) (hj : j < T.length) (hb : parse_binds.f 5 (tk T j).f0 (tk T j).f1 (tk T j).f2 (tk T j).f3 = some b) (hbl : b ≤ least) :
    Calls Tryz.prog 55 #[.pointer (some ⟨g, 0, none⟩), .int .i64 least] w (Res T g a c t j w) := by
  have HG := Lib.hid hj
  have HO := Lib.hid hop
  have HP := Lib.hid hP
  have HBB := Lib.hid hb
  have d1 : decide (b ≤ least) = true := decide_eq_true hbl
  have hlt := Lib.hid (And.intro hP.lt hP.alt)
  clear hop hP hj hb hbl
  go_enter Tryz.func55, Tryz.ntmps55
  go_wp2_with fail
  obtain ⟨w1, hw1, hb1, hn1⟩ : ∃ w1, w.alloc (.cells #[.int .i64 0, .string (⟨#[]⟩ : ByteArray), .int .i64 0, .int .i64 0, .slice none 0 0] 51) = w1 ∧ Below w.heap.size w w1 ∧ w1.heap[w.heap.size]? = some (.cells #[.int .i64 0, .string (⟨#[]⟩ : ByteArray), .int .i64 0, .int .i64 0, .slice none 0 0] 51 (0, 0)) :=
    ⟨_, rfl, (Below.refl _ _).alloc (Nat.le_refl _) _, heap_alloc_new _ _⟩
  rw [hw1]
  refine (HO.out w1 (HP.out.below hb1)).mono ?_
  rintro e w2 ⟨v, x, rfl, hN, hS, hP2, hF2⟩
  obtain ⟨A, cx, rfl, hR⟩ := hN
  have P2 := Lib.hid hP2
  have R2 := Lib.hid (And.intro hR hS)
  have hs1 : w.heap.size < w1.heap.size := (Array.getElem?_eq_some_iff.1 hn1).1
  have N2 := Lib.hid ((hF2.block w.heap.size (Array.getElem?_eq_some_iff.1 hn1).1 (fun e => by have := hlt.out.1; omega)).trans hn1)
  have F2 := Lib.hid ((Fr.of_below hb1).trans hF2)
  clear hw1 hb1 hn1 hR hS hP2 hF2
  go_wp2_with fail
  obtain ⟨w3, hw3, hb3, hn3⟩ : ∃ w3, w2.alloc (.cells #[.int .i64 x.f0, .string x.f1, .int .i64 x.f2, .int .i64 x.f3, .slice A x.f4.length cx] 51) = w3 ∧ Below w2.heap.size w2 w3 ∧ w3.heap[w2.heap.size]? = some (.cells #[.int .i64 x.f0, .string x.f1, .int .i64 x.f2, .int .i64 x.f3, .slice A x.f4.length cx] 51 (0, 0)) := ⟨_, rfl, (Below.refl _ _).alloc (Nat.le_refl _) _, heap_alloc_new _ _⟩
  rw [hw3]
  have P3 := Lib.hid (P2.out.below hb3)
  have R3 := Lib.hid (And.intro (R2.out.1.below hb3) R2.out.2)
  have N3 := Lib.hid ((hb3.block w.heap.size (Array.getElem?_eq_some_iff.1 N2.out).1).trans N2.out)
  have M3 := Lib.hid hn3
  have F3 := Lib.hid (F2.out.trans (Fr.of_below hb3))
  clear hw3 hb3 hn3 P2 R2 N2 F2
  refine wp_loop_once ?_
  go_wp2_with fail
  refine (now_call P3.out HG.out).mono ?_
  rintro e w4 ⟨rfl, hb4⟩
  unfold tv
  have B4 := Lib.hid hb4
  clear hb4
  go_wp2_with fail
  obtain ⟨w5, hw5, hb5⟩ : ∃ w5, w4.alloc (.cells #[.int .i64 (tk T j).f0, .string (tk T j).f1, .int .i64 (tk T j).f2, .int .i64 (tk T j).f3] 88) = w5 ∧ Below w3.heap.size w3 w5 := ⟨_, rfl, below_alloc B4.out _⟩
  rw [hw5]
  refine (parse_binds.calls 5 _ _ _ _ b _ HBB.out).mono ?_
  rintro e w6 ⟨rfl, hb6⟩
  have hb36 := hb5.trans (hb6.mono hb5.size)
  have P6 := Lib.hid (P3.out.below hb36)
  have R6 := Lib.hid (And.intro (R3.out.1.below hb36) R3.out.2)
  have N6 := Lib.hid ((hb36.block w.heap.size (Array.getElem?_eq_some_iff.1 N3.out).1).trans N3.out)
  have M6 := Lib.hid ((hb36.block w2.heap.size (Array.getElem?_eq_some_iff.1 M3.out).1).trans M3.out)
  have F6 := Lib.hid (F3.out.trans (Fr.of_below hb36))
  clear hw5 hb5 hb6 hb36 P3 R3 N3 M3 F3 B4
  obtain ⟨m0, m1, m2, m3, m4⟩ := five_of M6.out
  obtain ⟨n0, n1, n2, n3, n4⟩ := five_of N6.out
  have u0 := blk_frozen N6.out 0
  have u1 := blk_frozen N6.out 1
  have u2 := blk_frozen N6.out 2
  have u3 := blk_frozen N6.out 3
  have u4 := blk_frozen N6.out 4
  go_wp2_with fail
  have hn := N6.out
  clear N6 n0 n1 n2 n3 n4 u0 u1 u2 u3 u4 m0 m1 m2 m3 m4
  obtain ⟨G, hG⟩ : ∃ G, w.heap.size = G := ⟨_, rfl⟩
  have hGp : G ≠ g ∧ G ≠ a := by have := hlt.out; omega
  have hFn : Fr (fun k => k = g) w (((((w6.setCell ⟨G, 0, none⟩ (.int .i64 x.f0)).setCell ⟨G, 1, none⟩ (.string x.f1)).setCell ⟨G, 2, none⟩ (.int .i64 x.f2)).setCell ⟨G, 3, none⟩ (.int .i64 x.f3)).setCell ⟨G, 4, none⟩ (.slice A x.f4.length cx)) := F6.out.new (five_fr _ _ _ _ _) (fun k hk => .inr (by omega))
  rw [hG] at hn ⊢
  have hg := five_set (.int .i64 x.f0) (.string x.f1) (.int .i64 x.f2) (.int .i64 x.f3) (.slice A x.f4.length cx) hn
  refine bodyPost_ret (results_cell_row rfl _ _ G 51 _ (0, 0) _ rfl hg Tryz.underlying51 rfl (by kernel_rfl)) rfl ⟨_, x, rfl, ⟨A, cx, rfl, ?_⟩, R6.out.2, P6.out.fr (five_fr _ _ _ _ _) (fun k hk => by subst hk; exact hGp), hFn⟩
  exact Kd.R_lower (R6.out.1.fr (five_fr _ _ _ _ _) (fun k hk => by omega)) (by omega)
end Go.Proofs.YtaoippnipcchmaaGreatDoor.PT
/- TopCode: the parser's operand: a number. -/
namespace Go.Proofs.YtaoippnipcchmaaGreatDoor.PT
open Go.RowKit Go.Proofs.YtaoippnipcchmaaGreatDoorW.PrintWords Go.Proofs.YtaoippnipcchmaaGreatDoorW.PrintLast Go.Proofs.YtaoippnipcchmaaGreatDoorW.PrintMore
open Go.Proofs.YtaoippnipcchmaaGreatDoor.TP
set_option linter.unusedVariables false
set_option linter.unusedSimpArgs false

theorem far_cell {w : World} {b c i o : Nat} {v x : Value} (hne : c ≠ b) (h : w.cell? ⟨c, o, none⟩ = some v) : (w.setCell ⟨b, i, none⟩ x).cell? ⟨c, o, none⟩ = some v := by
  rw [← h]
  unfold World.cell?
  simp only
  rw [Below.heap_setCell _ _ _ _ hne]
set_option maxHeartbeats 8000000 in
set_option maxRecDepth 100000 in
theorem operand_num {T : List Tk} {g a c i : Nat} {w : World} (hP : Par g a c T i w) (hi : i < T.length) (n : Nat) (hm : Mt (tNum n) (tk T i)) :
    Calls Tryz.prog 95 #[.pointer (some ⟨g, 0, none⟩)] w (Res T g a c (.leaf n) (i + 1) w) := by
  have HP := Lib.hid hP
  have HI := Lib.hid (And.intro hi hm)
  have hlen := hP.len
  have hi5 : (i : Int) ≤ 65536 := by omega
  have q1 : ((tk T i).f0 == 3) = true := beq_iff_eq.2 hm.1
  have hlt := Lib.hid (And.intro hP.lt hP.alt)
  clear hP hi hm
  go_enter Tryz.func95, Tryz.ntmps95
  go_wp2_with fail
  obtain ⟨w1, hw1, hb1, hn1, hs1⟩ : ∃ w1, w.alloc (.cells #[.int .i64 0, .string (⟨#[]⟩ : ByteArray), .int .i64 0, .int .i64 0, .slice none 0 0] 51) = w1 ∧ Below w.heap.size w w1 ∧ w1.heap[w.heap.size]? = some (.cells #[.int .i64 0, .string (⟨#[]⟩ : ByteArray), .int .i64 0, .int .i64 0, .slice none 0 0] 51 (0, 0)) ∧ w1.heap.size = w.heap.size + 1 :=
    ⟨_, rfl, (Below.refl _ _).alloc (Nat.le_refl _) _, heap_alloc_new _ _, by simp⟩
  rw [hw1]
  refine (now_call (HP.out.below hb1) HI.out.1).mono ?_
  rintro e w2 ⟨rfl, hb2⟩
  unfold tv
  have P2 := Lib.hid ((HP.out.below hb1).below hb2)
  have N2 := Lib.hid ((hb2.block w.heap.size (by omega)).trans hn1)
  have B2 := Lib.hid (hb1.trans (hb2.mono (by omega)))
  have s2 : w.heap.size < w2.heap.size := by have := hb2.size; omega
  clear hw1 hb1 hn1 hs1 hb2
  have hmx : Tryz.prog.follows .mixedOrders = true := by kernel_rfl
  go_wp2_with fail
  obtain ⟨w3, hw3, hb3, hk3, hv3, hs3⟩ : ∃ w3, (w2.alloc (.cells #[.int .i64 (tk T i).f0, .string (tk T i).f1, .int .i64 (tk T i).f2, .int .i64 (tk T i).f3] 88)).alloc (.cells #[.int .i64 0, .string (⟨#[]⟩ : ByteArray), .int .i64 0, .int .i64 (tk T i).f3, .slice none 0 0] 51) = w3 ∧ Below w2.heap.size w2 w3 ∧
      w3.heap[w2.heap.size]? = some (.cells #[.int .i64 (tk T i).f0, .string (tk T i).f1, .int .i64 (tk T i).f2, .int .i64 (tk T i).f3] 88 (0, 0)) ∧ w3.heap[w2.heap.size + 1]? = some (.cells #[.int .i64 0, .string (⟨#[]⟩ : ByteArray), .int .i64 0, .int .i64 (tk T i).f3, .slice none 0 0] 51 (0, 0)) ∧ w3.heap.size = w2.heap.size + 2 :=
    ⟨_, rfl, ((Below.refl _ _).alloc (Nat.le_refl _) _).alloc (by simp) _, (Below.heap_alloc _ _ _ (by simp)).trans (heap_alloc_new _ _), by have := heap_alloc_new (w2.alloc (.cells #[.int .i64 (tk T i).f0, .string (tk T i).f1, .int .i64 (tk T i).f2, .int .i64 (tk T i).f3] 88)) (.cells #[.int .i64 0, .string (⟨#[]⟩ : ByteArray), .int .i64 0, .int .i64 (tk T i).f3, .slice none 0 0] 51); simpa using this, by simp⟩
  rw [hw3]
  have K3 := Lib.hid hk3
  have V3 := Lib.hid hv3
  have P3 := Lib.hid (P2.out.below hb3)
  have N3 := Lib.hid ((hb3.block w.heap.size (Array.getElem?_eq_some_iff.1 N2.out).1).trans N2.out)
  have B3 := Lib.hid (B2.out.trans (hb3.mono B2.out.size))
  clear hw3 hb3 hk3 hv3 hs3 P2 N2 B2
  obtain ⟨t0, t1, t2, t3⟩ := four_of K3.out
  obtain ⟨m0, m1, m2, m3, m4⟩ := five_of V3.out
  have u0 := blk_frozen V3.out 0
  have u2 := blk_frozen V3.out 2
  have V4 := Lib.hid (blk_put (cs := #[.int .i64 0, .string (⟨#[]⟩ : ByteArray), .int .i64 0, .int .i64 (tk T i).f3, .slice none 0 0]) (cs' := #[.int .i64 4, .string (⟨#[]⟩ : ByteArray), .int .i64 0, .int .i64 (tk T i).f3, .slice none 0 0]) V3.out 0 (.int .i64 4) rfl)
  have t2a := far_cell (b := w2.heap.size + 1) (i := 0) (x := .int .i64 4) (by omega) t2
  have V5 := Lib.hid (blk_drew (blk_put (cs := #[.int .i64 4, .string (⟨#[]⟩ : ByteArray), .int .i64 0, .int .i64 (tk T i).f3, .slice none 0 0]) (cs' := #[.int .i64 4, .string (⟨#[]⟩ : ByteArray), .int .i64 (tk T i).f2, .int .i64 (tk T i).f3, .slice none 0 0]) V4.out 2 (.int .i64 (tk T i).f2) rfl))
  have F5 : RowKit.Hid (Fr (fun k => k = w2.heap.size + 1) w3 ((w3.setCell ⟨w2.heap.size + 1, 0, none⟩ (.int .i64 4)).setCell ⟨w2.heap.size + 1, 2, none⟩ (.int .i64 (tk T i).f2)).drew) := Lib.hid (((Fr.set (c := fun k => k = w2.heap.size + 1) (p := ⟨w2.heap.size + 1, 0, none⟩) rfl _).trans (Fr.set (c := fun k => k = w2.heap.size + 1) (p := ⟨w2.heap.size + 1, 2, none⟩) rfl _)).trans (Fr.of_below (Below.refl _ _).drew))
  go_region_with fail
  all_goals
    obtain ⟨w5, hw5⟩ : ∃ w5, ((w3.setCell ⟨w2.heap.size + 1, 0, none⟩ (.int .i64 4)).setCell ⟨w2.heap.size + 1, 2, none⟩ (.int .i64 (tk T i).f2)).drew = w5 := ⟨_, rfl⟩
    have hgl := hlt.out
    have hV5 := V5.out
    have hF5 := F5.out
    rw [hw5] at hV5 hF5
    have hP5 := P3.out.fr hF5 (fun k hk => by omega)
    have hN5 := (hF5.block w.heap.size (Array.getElem?_eq_some_iff.1 N3.out).1 (by omega)).trans N3.out
    have hF05 := (Fr.of_below (c := fun k => k = g) B3.out).new hF5 (fun k hk => .inr (by omega))
    obtain ⟨x0, x1, f0, f1⟩ := two_of hP5.blk
    have hG6 : Fr (fun k => k = g) w5 (w5.setCell ⟨g, 1, none⟩ (.int .i64 ((i : Int) + 1))) := Fr.set (c := fun k => k = g) (p := ⟨g, 1, none⟩) rfl _
    have hP6 := hP5.set (i + 1)
    have hV6 := (hG6.block (w2.heap.size + 1) (Array.getElem?_eq_some_iff.1 hV5).1 (by omega)).trans hV5
    have hN6 := (hG6.block w.heap.size (Array.getElem?_eq_some_iff.1 hN5).1 (by omega)).trans hN5
    have Q := Lib.hid (And.intro hP6 (And.intro hN6 (hF05.trans hG6)))
    obtain ⟨v0, v1, v2, v3, v4⟩ := five_of hV6
    obtain ⟨n0, n1, n2, n3, n4⟩ := five_of hN6
    have r0 := blk_frozen hN6 0
    have r1 := blk_frozen hN6 1
    have r2 := blk_frozen hN6 2
    have r3 := blk_frozen hN6 3
    have r4 := blk_frozen hN6 4
    clear hV5 hF5 hP5 hN5 hF05 hG6 hP6 hV6 hN6 hgl m0 m1 m2 m3 m4 u0 u2 t0 t1 t2 t3 t2a V5 F5 V4 V3 K3 P3 N3 B3
    go_wp2_with fail
    have hg := five_set (.int .i64 4) (.string (⟨#[]⟩ : ByteArray)) (.int .i64 (tk T i).f2) (.int .i64 (tk T i).f3) (.slice none 0 0) Q.out.2.1
    clear v0 v1 v2 v3 v4 n0 n1 n2 n3 n4 r0 r1 r2 r3 r4 x0 x1 f0 f1
    have hgl := hlt.out
    refine bodyPost_ret (results_cell_row rfl _ _ w.heap.size 51 _ (0, 0) _ rfl hg Tryz.underlying51 rfl (by kernel_rfl)) rfl ⟨_, ⟨4, ⟨#[]⟩, (tk T i).f2, (tk T i).f3, []⟩, rfl, ⟨none, 0, rfl, ?_⟩, ⟨rfl, rfl, HI.out.2.2.2, rfl⟩, Q.out.1.fr (five_fr _ _ _ _ _) (fun k hk => by subst hk; omega), Q.out.2.2.new (five_fr _ _ _ _ _) (fun k hk => .inr (by omega))⟩
    exact Kd.R_nil _ _ _ _ _
end Go.Proofs.YtaoippnipcchmaaGreatDoor.PT
/- TopCode: in the midst of a walk of the parser's: the result's box, a node's box. -/
namespace Go.Proofs.YtaoippnipcchmaaGreatDoor.PT
open Go.RowKit Go.Proofs.YtaoippnipcchmaaGreatDoorW.PrintWords Go.Proofs.YtaoippnipcchmaaGreatDoorW.PrintLast Go.Proofs.YtaoippnipcchmaaGreatDoorW.PrintMore
open Go.Proofs.YtaoippnipcchmaaGreatDoor.TP
set_option linter.unusedVariables false
set_option linter.unusedSimpArgs false

abbrev RK (w : World) (B : Nat) (ok : Nat → Prop) (v : Value) (xs : List Nd) : Prop := Kd.R k51 51 w B ok v xs
theorem RK.fr {w w' : World} {B : Nat} {ok : Nat → Prop} {v : Value} {xs : List Nd} {c : Nat → Prop} (h : RK w B ok v xs) (hF : Fr c w w') (hc : ∀ k, c k → k < B ∨ ¬ ok k) : RK w' B ok v xs :=
  Kd.R_mono (Kd.R_step (Kd.R_bound h) (fun k hk hlt => hF.block k hlt (fun e => by rcases hc k e with h1 | h1; have := hk.2.1; omega; exact h1 hk.1))) (fun _ hk => hk.1)
theorem cell_five {w : World} {G : Nat} {p : Nat} {o : Nat} {v u0 u1 u2 u3 u4 : Value} (hp : p ≠ G) (h : w.cell? ⟨p, o, none⟩ = some v) : (((((w.setCell ⟨G, 0, none⟩ u0).setCell ⟨G, 1, none⟩ u1).setCell ⟨G, 2, none⟩ u2).setCell ⟨G, 3, none⟩ u3).setCell ⟨G, 4, none⟩ u4).cell? ⟨p, o, none⟩ = some v := by
  rw [← h]
  unfold World.cell?
  simp only
  rw [Below.heap_setCell _ _ _ _ hp, Below.heap_setCell _ _ _ _ hp, Below.heap_setCell _ _ _ _ hp, Below.heap_setCell _ _ _ _ hp, Below.heap_setCell _ _ _ _ hp]
/-- In the midst of exp's loop: the result's box, the left node's box. -/
structure Mid (T : List Tk) (g a c : Nat) (w : World) (b5 : Nat) (p : Nat) (y : Nd) (Ay : Option Addr) (cy : Nat) (wr : World) : Prop where
  par : Par g a c T p wr
  res : wr.heap[w.heap.size]? = some (.cells #[.int .i64 0, .string (⟨#[]⟩ : ByteArray), .int .i64 0, .int .i64 0, .slice none 0 0] 51 (0, 0))
  box : wr.heap[b5]? = some (.cells #[.int .i64 y.f0, .string y.f1, .int .i64 y.f2, .int .i64 y.f3, .slice Ay y.f4.length cy] 51 (0, 0))
  row : RK wr (w.heap.size + 1) (fun k => k ≠ b5) (.slice Ay y.f4.length cy) y.f4
  fr : Fr (fun k => k = g) w wr
  old : g < w.heap.size ∧ a < w.heap.size ∧ w.heap.size < b5
section
variable {T : List Tk} {g a c b5 p : Nat} {y : Nd} {Ay : Option Addr} {cy : Nat} {w wr w' : World}
theorem Mid.below (h : Mid T g a c w b5 p y Ay cy wr) (hb : Below wr.heap.size wr w') : Mid T g a c w b5 p y Ay cy w' :=
  ⟨h.par.below hb, (hb.block _ (Array.getElem?_eq_some_iff.1 h.res).1).trans h.res, (hb.block _ (Array.getElem?_eq_some_iff.1 h.box).1).trans h.box, Kd.R_below h.row hb, h.fr.trans (Fr.of_below hb), h.old⟩
theorem Mid.blt (h : Mid T g a c w b5 p y Ay cy wr) : b5 < wr.heap.size := (Array.getElem?_eq_some_iff.1 h.box).1
theorem Mid.par' (h : Mid T g a c w b5 p y Ay cy wr) {q : Nat} (hP : Par g a c T q w') (hF : Fr (fun k => k = g) wr w') : Mid T g a c w b5 q y Ay cy w' :=
  ⟨hP, (hF.block _ (Array.getElem?_eq_some_iff.1 h.res).1 (fun e => by have := h.old; omega)).trans h.res, (hF.block _ h.blt (fun e => by have := h.old; omega)).trans h.box, RK.fr h.row hF (fun k hk => .inl (by have := h.old; omega)), h.fr.trans hF, h.old⟩
theorem Mid.cells (h : Mid T g a c w b5 p y Ay cy wr) : (wr.cell? ⟨b5, 0, none⟩ = some (.int .i64 y.f0) ∧ wr.cell? ⟨b5, 1, none⟩ = some (.string y.f1) ∧ wr.cell? ⟨b5, 2, none⟩ = some (.int .i64 y.f2) ∧ wr.cell? ⟨b5, 3, none⟩ = some (.int .i64 y.f3) ∧ wr.cell? ⟨b5, 4, none⟩ = some (.slice Ay y.f4.length cy)) := five_of h.box
end
/-- The node's box is written anew; its row lies apart. -/
theorem Mid.five {T : List Tk} {g a c b5 p : Nat} {y z : Nd} {Ay Az : Option Addr} {cy cz : Nat} {w wr : World} (h : Mid T g a c w b5 p y Ay cy wr) (hr : RK wr (w.heap.size + 1) (fun k => k ≠ b5) (.slice Az z.f4.length cz) z.f4) :
    Mid T g a c w b5 p z Az cz (((((wr.setCell ⟨b5, 0, none⟩ (.int .i64 z.f0)).setCell ⟨b5, 1, none⟩ (.string z.f1)).setCell ⟨b5, 2, none⟩ (.int .i64 z.f2)).setCell ⟨b5, 3, none⟩ (.int .i64 z.f3)).setCell ⟨b5, 4, none⟩ (.slice Az z.f4.length cz)) := by
  have ho := h.old
  exact ⟨h.par.fr (five_fr _ _ _ _ _) (fun k hk => by subst hk; omega), ((five_fr _ _ _ _ _).block _ (Array.getElem?_eq_some_iff.1 h.res).1 (by omega)).trans h.res, five_set _ _ _ _ _ h.box, RK.fr hr (five_fr _ _ _ _ _) (fun k hk => .inr (fun e => e hk)), h.fr.new (five_fr _ _ _ _ _) (fun k hk => .inr (by omega)), ho⟩
/-- The end: what the node's box holds goes into the result's. -/
theorem Mid.res_ {T : List Tk} {g a c b5 p : Nat} {t : Tr} {y : Nd} {Ay : Option Addr} {cy : Nat} {w wr : World} (h : Mid T g a c w b5 p y Ay cy wr) (hs : Sh t y) :
    Res T g a c t p w (.returned (.agg #[.int .i64 y.f0, .string y.f1, .int .i64 y.f2, .int .i64 y.f3, .slice Ay y.f4.length cy])) (((((wr.setCell ⟨w.heap.size, 0, none⟩ (.int .i64 y.f0)).setCell ⟨w.heap.size, 1, none⟩ (.string y.f1)).setCell ⟨w.heap.size, 2, none⟩ (.int .i64 y.f2)).setCell ⟨w.heap.size, 3, none⟩ (.int .i64 y.f3)).setCell ⟨w.heap.size, 4, none⟩ (.slice Ay y.f4.length cy)) := by
  have ho := h.old
  exact ⟨_, y, rfl, ⟨Ay, cy, rfl, Kd.R_lower (Kd.R_mono (RK.fr h.row (five_fr _ _ _ _ _) (fun k hk => .inl (by omega))) (fun _ _ => trivial)) (by omega)⟩, hs, h.par.fr (five_fr _ _ _ _ _) (fun k hk => by subst hk; omega), h.fr.new (five_fr _ _ _ _ _) (fun k hk => .inr (by omega))⟩
end Go.Proofs.YtaoippnipcchmaaGreatDoor.PT
