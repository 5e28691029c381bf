/- runes.each: goes through a text's runes and tells each to a function value, till that says no: its contract over whatever the function does. -/
import Derived.Test.YtlmmhlabacghnaaDoorPRx0
import Derived.Test.YtlmmhlabacghnaaDoorRM
import Derived.WalkLawsBesides
import Derived.Lib.Hide
import Derived.Lib.OthersKept
namespace Go.Proofs.YtlmmhlabacghnaaDoor.PR
open Go.RowKit Go.Proofs.YtlmmhlabacghnaaDoorW.PrintWords Go.Proofs.YtlmmhlabacghnaaDoor.RuneMath
set_option linter.unusedVariables false
set_option linter.unusedSimpArgs false

/-- Below B, but for the blocks in c, the world is as it was. -/
structure Frm (c : Nat → Prop) (B : Nat) (w w' : World) : Prop where
  os : w'.os = w.os
  tape : w'.tape = w.tape
  output : w'.output = w.output
  size : w.heap.size ≤ w'.heap.size
  block : ∀ k, k < B → ¬ c k → w'.heap[k]? = w.heap[k]?
theorem Frm.refl (c : Nat → Prop) (B : Nat) (w : World) : Frm c B w w := ⟨rfl, rfl, rfl, Nat.le_refl _, fun _ _ _ => rfl⟩
theorem Frm.trans {c : Nat → Prop} {B : Nat} {a b d : World} (h : Frm c B a b) (k : Frm c B b d) : Frm c B a d :=
  ⟨k.os.trans h.os, k.tape.trans h.tape, k.output.trans h.output, Nat.le_trans h.size k.size, fun i hi hc => (k.block i hi hc).trans (h.block i hi hc)⟩
theorem Frm.mono {c : Nat → Prop} {B B' : Nat} {w w' : World} (h : Frm c B w w') (hB : B' ≤ B) : Frm c B' w w' := ⟨h.os, h.tape, h.output, h.size, fun k hk => h.block k (by omega)⟩
theorem Frm.of_below {c : Nat → Prop} {B : Nat} {w w' : World} (h : Below B w w') : Frm c B w w' := ⟨h.os, h.tape, h.output, h.size, fun k hk _ => h.block k hk⟩
theorem Frm.below {c : Nat → Prop} {B B' : Nat} {w w' : World} (h : Frm c B w w') (hB : B' ≤ B) (hc : ∀ k, k < B' → ¬ c k) : Below B' w w' := ⟨h.os, h.tape, h.output, h.size, fun k hk => h.block k (by omega) (hc k hk)⟩

/-- A rune as a value. -/
def rval (r : R3) : Value := .agg #[.int .i64 r.1, .int .i64 r.2.1, .int .i64 r.2.2]

/-- One step of the iterator, the world behind it under a name of its own. -/
theorem next_at (w : World) (b it : Nat) (s : ByteArray) (pos : Nat) (x y z : Value) (hit : w.heap[it]? = some (.stringIter s pos)) (hl : w.heap[b]? = some (.cells #[x, y, z] 28 (0, 0))) (hp : pos < s.size) :
    ∃ w1, (∀ ty, (Instr.next (.pointer (some ⟨it, 0, none⟩)) true ty).run Tryd.prog w = .ok (.tuple #[.bool true, .int .i64 pos, .int .i32 (Utf8.decode s pos).1]) w1) ∧
      w1.heap[it]? = some (.stringIter s (pos + (Utf8.decode s pos).2)) ∧ w1.heap[b]? = some (.cells #[x, y, z] 28 (0, 0)) ∧ (∀ k, k ≠ it → w1.heap[k]? = w.heap[k]?) ∧
      w1.os = w.os ∧ w1.tape = w.tape ∧ w1.output = w.output ∧ w1.heap.size = w.heap.size := by
  have hne : b ≠ it := by
    rintro rfl
    rw [hl] at hit
    cases hit
  exact ⟨_, fun ty => Lib.run_next_any_at w it s pos ty hit hp, Lib.iterAt_heap w it s pos _ hit, (Lib.iterAt_other w it b s _ hne).trans hl, fun k hk => Lib.iterAt_other w it k s _ hk, rfl, rfl, rfl, Lib.iterAt_size w it s _⟩

theorem row3 {w : World} {b : Nat} {x y z : Value} {t : TypeId} (h : w.heap[b]? = some (.cells #[x, y, z] t (0, 0))) :
    w.cell? ⟨b, 0, none⟩ = some x ∧ w.cell? ⟨b, 1, none⟩ = some y ∧ w.cell? ⟨b, 2, none⟩ = some z ∧ w.frozen? ⟨b, 0, none⟩ = false ∧ w.frozen? ⟨b, 1, none⟩ = false ∧ w.frozen? ⟨b, 2, none⟩ = false :=
  ⟨(blk_cell h 0).trans rfl, (blk_cell h 1).trans rfl, (blk_cell h 2).trans rfl, blk_frozen h 0, blk_frozen h 1, blk_frozen h 2⟩

/-- What each's loop holds: its own two blocks, what has been told, what is still to be told. -/
structure EachAt (s : ByteArray) (w0 : World) (Inv : List R3 → World → Prop) (cont : List R3 → R3 → Bool) (c : Nat → Prop) (first : Prop) (pos : Nat) (told : List R3) (r : R3) (wr : World) : Prop where
  it : wr.heap[w0.heap.size + 1]? = some (.stringIter s pos)
  inv : Inv told wr
  frm : Frm c w0.heap.size w0 wr
  size : w0.heap.size + 2 ≤ wr.heap.size
  fst : first → pos = 0 ∧ told = []
  nxt : ¬ first → r.1 < s.size ∧ pos = r.1 + r.2.1 ∧ r.2 = ((Utf8.decode s r.1).2, (Utf8.decode s r.1).1) ∧ go cont told (r :: from_ s pos) = go cont [] (rs s) ∧ told ++ (r :: from_ s pos) = rs s
  le : pos ≤ s.size

theorem gelt_f {a : Int} (h : a < 0) : decide (0 ≤ a) = false := decide_eq_false (by omega)
theorem gelt_t {a : Int} (h : 0 ≤ a) : decide (0 ≤ a) = true := decide_eq_true h

theorem setCell_streams (w : World) (p : Addr) (v : Value) : (w.setCell p v).os = w.os ∧ (w.setCell p v).tape = w.tape ∧ (w.setCell p v).output = w.output ∧ (w.setCell p v).heap.size = w.heap.size := ⟨rfl, rfl, rfl, by simp [World.setCell]⟩

/-- 'last' written anew: what the next round finds. -/
theorem wrote3 {w : World} {b : Nat} {x y z : Value} {t : TypeId} (h : w.heap[b]? = some (.cells #[x, y, z] t (0, 0))) (x' y' z' : Value) :
    ∃ w', ((w.setCell ⟨b, 0, none⟩ x').setCell ⟨b, 1, none⟩ y').setCell ⟨b, 2, none⟩ z' = w' ∧ w'.heap[b]? = some (.cells #[x', y', z'] t (0, 0)) ∧ (∀ k, k ≠ b → w'.heap[k]? = w.heap[k]?) ∧
      w'.os = w.os ∧ w'.tape = w.tape ∧ w'.output = w.output ∧ w'.heap.size = w.heap.size := by
  refine ⟨_, rfl, ?_, fun k hk => ?_, rfl, rfl, rfl, by simp [World.setCell]⟩
  · have h1 := blk_put (cs := #[x, y, z]) h 0 x' (cs' := #[x', y, z]) rfl
    have h2 := blk_put (cs := #[x', y, z]) h1 1 y' (cs' := #[x', y', z]) rfl
    exact blk_put (cs := #[x', y', z]) h2 2 z' (cs' := #[x', y', z']) rfl
  · rw [Below.heap_setCell _ _ _ _ hk, Below.heap_setCell _ _ _ _ hk, Below.heap_setCell _ _ _ _ hk]
theorem wrote1 {w : World} {b : Nat} {x y z : Value} {t : TypeId} (h : w.heap[b]? = some (.cells #[x, y, z] t (0, 0))) (y' : Value) :
    ∃ w', w.setCell ⟨b, 1, none⟩ y' = w' ∧ w'.heap[b]? = some (.cells #[x, y', z] t (0, 0)) ∧ (∀ k, k ≠ b → w'.heap[k]? = w.heap[k]?) ∧
      w'.os = w.os ∧ w'.tape = w.tape ∧ w'.output = w.output ∧ w'.heap.size = w.heap.size := by
  refine ⟨_, rfl, ?_, fun k hk => ?_, rfl, rfl, rfl, by simp [World.setCell]⟩
  · exact blk_put (cs := #[x, y, z]) h 1 y' (cs' := #[x, y', z]) rfl
  · rw [Below.heap_setCell _ _ _ _ hk]

theorem iterPos_of' {w : World} {k : Nat} {s : ByteArray} {p : Nat} (h : w.heap[k]? = some (.stringIter s p)) : w.iterPos k = p := by
  unfold World.iterPos
  rw [h]

set_option maxHeartbeats 1000000 in
set_option maxRecDepth 100000 in
theorem each_any (s : ByteArray) (hs : s.size ≤ 4611686018427387904) (fcl : FuncId) (caps : Array Value) (hcf : ∀ args w, (callFunc fcl args).run Tryd.prog w = .ok (.enter fcl args) w) (w0 : World) (Inv : List R3 → World → Prop) (cont : List R3 → R3 → Bool) (c : Nat → Prop)
    (hcb : ∀ k, c k → k < w0.heap.size)
    (hstable : ∀ told w w', Inv told w → w.heap.size ≤ w'.heap.size → (∀ k, k < w.heap.size → k ≠ w0.heap.size → k ≠ w0.heap.size + 1 → w'.heap[k]? = w.heap[k]?) → Inv told w')
    (h0 : Inv [] w0)
    (hstep : ∀ told r w, (∃ rest, told ++ r :: rest = rs s) → Inv told w → w0.heap.size + 2 ≤ w.heap.size → Calls Tryd.prog fcl (#[rval r] ++ caps) w fun e w' => e = .returned (.bool (cont told r)) ∧ Inv (told ++ [r]) w' ∧ Frm c (w0.heap.size + 2) w w') :
    Calls Tryd.prog 49 #[.string s, .func (.func fcl) #[] caps] w0 fun e w' => e = .returned (.tuple #[]) ∧ Inv (go cont [] (rs s)) w' ∧ Frm c w0.heap.size w0 w' := by
  have HST := Lib.hid hstable
  have HSP := Lib.hid hstep
  have H0 := Lib.hid h0
  have HCB := Lib.hid hcb
  clear hstable hstep h0 hcb
  go_enter Tryd.func49, Tryd.ntmps49
  go_wp2
  go_loopw [5, 6] (fun v5 v6 wr => ∃ (first : Bool) (pos : Nat) (told : List R3) (r : R3) (sz : Int), wr.heap[w0.heap.size]? = some (.cells #[.int .i64 (if first = true then -1 else r.1), .int .i64 sz, .int .i64 (if first = true then 0 else r.2.2)] 28 (0, 0)) ∧ EachAt s w0 Inv cont c (first = true) pos told r wr) (fun v5 v6 wr => s.size - wr.iterPos (w0.heap.size + 1))
  case atStart =>
    refine ⟨true, 0, [], (0, 0, 0), 0, ?_, ⟨?_, ?_, ?_, ?_, fun _ => ⟨rfl, rfl⟩, fun h => absurd rfl h, Nat.zero_le _⟩⟩
    · exact (Below.heap_alloc _ _ _ (by simp)).trans (heap_alloc_new _ _)
    · have := World.iter_heap (w0.alloc (.cells #[.int .i64 (-1), .int .i64 0, .int .i64 0] 28)) s 0
      simpa using this
    · refine HST.out _ _ _ H0.out (by simp [World.iter]; omega) fun k hk _ _ => ?_
      exact (Below.heap_alloc _ _ _ (by simp; omega)).trans (Below.heap_alloc _ _ _ hk)
    · exact Frm.of_below (((Below.refl _ _).alloc (Nat.le_refl _) _).alloc (by simp) _)
    · simp [World.iter]
  case round =>
    obtain ⟨first, pos, told, r, sz, hlast, H⟩ := hrel
    by_cases hp : pos < s.size
    · obtain ⟨w1, hnx, g1, g2, g3, g4, g5, g6, g7⟩ := next_at wr w0.heap.size (w0.heap.size + 1) s pos _ _ _ H.it hlast hp
      have hin1 : Inv told w1 := HST.out _ _ _ H.inv (by omega) fun k hk _ hne => g3 k hne
      have hfr1 : Frm c w0.heap.size w0 w1 := H.frm.trans ⟨g4, g5, g6, by omega, fun k hk _ => g3 k (by omega)⟩
      have hsz1 := H.size
      have hwp := width_pos s pos hp
      have hwf := width_fits s pos hp
      have hdl := decode_le s pos
      have hfl := from_lt s pos hp
      have hpos0 := iterPos_of' H.it
      cases first
      · obtain ⟨a1, a2, a3, a4, a5⟩ := H.nxt (by decide)
        obtain ⟨c0, c1, c2, f0, f1, f2⟩ := row3 g2
        have hle := H.le
        have ht := gelt_t (a := (r.1 : Int)) (by omega)
        obtain ⟨w2, hw2, b1, b2, b3, b4, b5, b6⟩ := wrote1 g2 (.int .i64 ((pos : Int) - r.1))
        have hin2 : Inv told w2 := HST.out _ _ _ hin1 (by omega) fun k hk hne _ => b2 k hne
        have hfr2 : Frm c w0.heap.size w0 w2 := hfr1.trans ⟨b3, b4, b5, by omega, fun k hk _ => b2 k (by omega)⟩
        have hit2 : w2.heap[w0.heap.size + 1]? = _ := (b2 _ (by omega)).trans g1
        have hlo : r.1 ≤ pos := by omega
        have hrv : Value.agg #[.int .i64 (r.1 : Int), .int .i64 ((pos : Int) - r.1), .int .i64 (r.2.2 : Int)] = rval r := by
          unfold rval
          rw [show (pos : Int) - r.1 = r.2.1 by omega]
        have P := Lib.hid (And.intro a1 (And.intro a2 (And.intro a3 (And.intro a4 a5))))
        have P1 := Lib.hid (And.intro hin2 (And.intro hfr2 (And.intro hit2 (And.intro b1 (And.intro b6 (And.intro g7 (And.intro hsz1 (And.intro hfl hpos0))))))))
        have P2 := Lib.hid (And.intro hw2 hrv)
        clear g1 g2 g3 g4 g5 g6 g7 H hlast hin1 hfr1 hin2 hfr2 hit2 a1 a2 a3 a4 a5 hw2 hrv b1 b2 b3 b4 b5 b6 hsz1 hfl hpos0
        go_wp2
        obtain ⟨hw2, hrv⟩ := P2.out
        obtain ⟨a1, a2, a3, a4, a5⟩ := P.out
        obtain ⟨hin2, hfr2, hit2, b1, b6, g7, hsz1, hfl, hpos0⟩ := P1.out
        simp only [if_neg (show ¬ (false = true) by decide)] at b1
        rw [hw2, hrv]
        refine (HSP.out told r w2 ⟨_, a5⟩ hin2 (by omega)).mono ?_
        rintro e w3 ⟨rfl, hin3, hfr3⟩
        have hno : ∀ k, w0.heap.size ≤ k → ¬ c k := fun k hk hc => by have := HCB.out k hc; omega
        have hb3 := (hfr3.block w0.heap.size (by omega) (hno _ (by omega))).trans b1
        have hit3 := (hfr3.block (w0.heap.size + 1) (by omega) (hno _ (by omega))).trans hit2
        have hfr03 : Frm c w0.heap.size w0 w3 := hfr2.trans (hfr3.mono (by omega))
        have hs3 := hfr3.size
        clear hfr3 hfr2 hit2 b1 hin2 hw2 hrv P P1 P2 hnx
        cases hcont : cont told r
        · have hgo : go cont [] (rs s) = told ++ [r] := by
            rw [← a4]
            simp [go, hcont]
          clear a4 a5 a2 a3 hcont hit3 hb3 hs3 hfl hpos0
          have HG := Lib.hid hgo
          clear hgo
          go_wp2
          exact bodyPost_ret (v := .tuple #[]) (by simp [results, Tryd.results49, go_sem]) rfl ⟨rfl, by rw [HG.out]; exact hin3, hfr03⟩
        · obtain ⟨c0, c1, c2, f0, f1, f2⟩ := row3 hb3
          obtain ⟨w4, hw4, d1, d2, d3, d4, d5, d6⟩ := wrote3 hb3 (.int .i64 (pos : Int)) (.int .i64 0) (.int .i64 ((Utf8.decode s pos).1 : Int))
          have hin4 : Inv (told ++ [r]) w4 := HST.out _ _ _ hin3 (by omega) fun k hk hne _ => d2 k hne
          have hfr4 : Frm c w0.heap.size w0 w4 := hfr03.trans ⟨d3, d4, d5, by omega, fun k hk _ => d2 k (by omega)⟩
          have hit4 : w4.heap[w0.heap.size + 1]? = _ := (d2 _ (by omega)).trans hit3
          have hgo : go cont (told ++ [r]) (from_ s pos) = go cont [] (rs s) := by
            rw [← a4]
            simp [go, hcont]
          have hall : (told ++ [r]) ++ from_ s pos = rs s := by rw [← a5]; simp
          have P3 := Lib.hid (And.intro hw4 (And.intro d1 (And.intro hin4 (And.intro hfr4 (And.intro hit4 (And.intro hgo (And.intro hall (And.intro d6 (And.intro hfl (And.intro hpos0 (And.intro hs3 (And.intro b6 (And.intro g7 hsz1)))))))))))))
          clear hw4 d1 d2 d3 d4 d5 d6 hin4 hfr4 hit4 hgo hall hin3 hfr03 hb3 hit3 hcont a2 a3 a4 a5 hs3 b6 g7 hsz1 hfl hpos0
          go_wp2
          obtain ⟨hw4, d1, hin4, hfr4, hit4, hgo, hall, d6, hfl, hpos0, hs3, b6, g7, hsz1⟩ := P3.out
          go_roundw
          case rel =>
            rw [hw4]
            refine ⟨false, pos + (Utf8.decode s pos).2, told ++ [r], (pos, (Utf8.decode s pos).2, (Utf8.decode s pos).1), 0, d1, ⟨hit4, hin4, hfr4, by omega, (fun h => by cases h), fun _ => ⟨hp, rfl, rfl, ?_, ?_⟩, hwf⟩⟩
            · rw [← hfl]; exact hgo
            · rw [← hfl]; exact hall
          case measure =>
            rw [hw4, iterPos_of' hit4, hpos0]
            omega
      · obtain ⟨a1, a2⟩ := H.fst rfl
        simp only [if_pos] at g2
        obtain ⟨c0, c1, c2, f0, f1, f2⟩ := row3 g2
        obtain ⟨w4, hw4, d1, d2, d3, d4, d5, d6⟩ := wrote3 g2 (.int .i64 (pos : Int)) (.int .i64 0) (.int .i64 ((Utf8.decode s pos).1 : Int))
        have hin4 : Inv told w4 := HST.out _ _ _ hin1 (by omega) fun k hk hne _ => d2 k hne
        have hfr4 : Frm c w0.heap.size w0 w4 := hfr1.trans ⟨d3, d4, d5, by omega, fun k hk _ => d2 k (by omega)⟩
        have hit4 : w4.heap[w0.heap.size + 1]? = _ := (d2 _ (by omega)).trans g1
        have hgo : go cont told (from_ s pos) = go cont [] (rs s) := by rw [a1, a2]; rfl
        have hall : told ++ from_ s pos = rs s := by rw [a1, a2]; rfl
        have P3 := Lib.hid (And.intro hw4 (And.intro d1 (And.intro hin4 (And.intro hfr4 (And.intro hit4 (And.intro hgo (And.intro hall (And.intro d6 (And.intro hfl (And.intro hpos0 (And.intro g7 hsz1)))))))))))
        clear hw4 d1 d2 d3 d4 d5 d6 hin4 hfr4 hit4 hgo hall g1 g2 g3 g4 g5 g6 g7 H hlast hin1 hfr1 hsz1 hfl hpos0 a1 a2
        go_wp2
        obtain ⟨hw4, d1, hin4, hfr4, hit4, hgo, hall, d6, hfl, hpos0, g7, hsz1⟩ := P3.out
        go_roundw
        case rel =>
          rw [hw4]
          refine ⟨false, pos + (Utf8.decode s pos).2, told, (pos, (Utf8.decode s pos).2, (Utf8.decode s pos).1), 0, d1, ⟨hit4, hin4, hfr4, by omega, (fun h => by cases h), fun _ => ⟨hp, rfl, rfl, ?_, ?_⟩, hwf⟩⟩
          · rw [← hfl]; exact hgo
          · rw [← hfl]; exact hall
        case measure =>
          rw [hw4, iterPos_of' hit4, hpos0]
          omega
    · have hnx : ∀ ty, (Instr.next (.pointer (some ⟨w0.heap.size + 1, 0, none⟩)) true ty).run Tryd.prog wr = .ok (.tuple #[.bool false]) wr := fun ty => Lib.run_next_end_at wr (w0.heap.size + 1) s pos ty H.it hp
      have hge := from_ge s pos hp
      have hsz1 := H.size
      have hle := H.le
      cases first
      · obtain ⟨a1, a2, a3, a4, a5⟩ := H.nxt (by decide)
        simp only [if_neg (show ¬ (false = true) by decide)] at hlast
        obtain ⟨c0, c1, c2, f0, f1, f2⟩ := row3 hlast
        have ht := gelt_t (a := (r.1 : Int)) (by omega)
        obtain ⟨w2, hw2, b1, b2, b3, b4, b5, b6⟩ := wrote1 hlast (.int .i64 ((s.size : Int) - r.1))
        have hin2 : Inv told w2 := HST.out _ _ _ H.inv (by omega) fun k hk hne _ => b2 k hne
        have hfr2 : Frm c w0.heap.size w0 w2 := H.frm.trans ⟨b3, b4, b5, by omega, fun k hk _ => b2 k (by omega)⟩
        have hlo : r.1 ≤ s.size := by omega
        have hrv : Value.agg #[.int .i64 (r.1 : Int), .int .i64 ((s.size : Int) - r.1), .int .i64 (r.2.2 : Int)] = rval r := by
          unfold rval
          rw [show (s.size : Int) - r.1 = r.2.1 by omega]
        have hgo : go cont [] (rs s) = told ++ [r] := by
          rw [← a4, hge]
          simp [go]
        rw [hge] at a5
        have P := Lib.hid (And.intro hgo (And.intro a5 (And.intro hin2 (And.intro hfr2 (And.intro hsz1 (And.intro b6 (And.intro hw2 hrv)))))))
        clear H hlast hin2 hfr2 a1 a2 a3 a4 a5 hw2 hrv b1 b2 b3 b4 b5 b6 hsz1 hge hgo hle
        go_wp2
        obtain ⟨hgo, a5, hin2, hfr2, hsz1, b6, hw2, hrv⟩ := P.out
        rw [hw2, hrv]
        refine (HSP.out told r w2 ⟨_, a5⟩ hin2 (by omega)).mono ?_
        rintro e w3 ⟨rfl, hin3, hfr3⟩
        have hfr03 : Frm c w0.heap.size w0 w3 := hfr2.trans (hfr3.mono (by omega))
        clear hfr3 hfr2 hin2 hw2 hrv P hnx
        have HG := Lib.hid hgo
        clear hgo
        go_wp2
        go_end0
        exact ⟨rfl, by rw [HG.out]; exact hin3, hfr03⟩
      · obtain ⟨a1, a2⟩ := H.fst rfl
        simp only [if_pos] at hlast
        obtain ⟨c0, c1, c2, f0, f1, f2⟩ := row3 hlast
        have hgo : go cont [] (rs s) = told := by
          show go cont [] (from_ s 0) = told
          rw [← a1, hge, a2]
          rfl
        have P := Lib.hid (And.intro hgo (And.intro H.inv H.frm))
        clear H hlast a1 a2 hge hgo hsz1 hle
        go_wp2
        go_end0
        obtain ⟨hgo, hin, hfr⟩ := P.out
        exact ⟨rfl, by rw [hgo]; exact hin, hfr⟩
end Go.Proofs.YtlmmhlabacghnaaDoor.PR
