import Derived.Laws.RangeAny
import Derived.Test.YtaoippnipcchmaaGreatDoorPTx0
import Derived.WalkLawsBesides
import Derived.Lib.Hide
import Derived.Test.YtaoippnipcchmaaGreatDoorMF
import Derived.Test.YtaoippnipcchmaaGreatDoorMA
import Derived.Test.YtaoippnipcchmaaGreatDoorME
/- Texts rune by rune, in plain numbers: the list of runes of a text by the model's own decoding. -/
namespace Go.Proofs.YtaoippnipcchmaaGreatDoor.RuneMath
set_option linter.unusedSimpArgs false

/-- A rune: where it begins, how many bytes it has, its code point. -/
abbrev R3 := Nat × Nat × Nat

theorem width_pos (s : ByteArray) (pos : Nat) (h : pos < s.size) : 1 ≤ (Utf8.decode s pos).2 := by
  by_cases ha : (s[pos]'h).toNat < 128
  · rw [decode_ascii s pos h ha]
    exact Nat.le_refl _
  · exact (decode_high s pos h (by omega)).2

theorem width_fits (s : ByteArray) (pos : Nat) (h : pos < s.size) : pos + (Utf8.decode s pos).2 ≤ s.size := by
  simp only [Utf8.decode]
  repeat' split
  all_goals simp_all [Utf8.runeError]
  all_goals omega

def scan (s : ByteArray) : Nat → Nat → List R3
  | 0, _ => []
  | f + 1, p => if p < s.size then (p, (Utf8.decode s p).2, (Utf8.decode s p).1) :: scan s f (p + (Utf8.decode s p).2) else []

theorem scan_more (s : ByteArray) : ∀ f g p, s.size - p ≤ f → s.size - p ≤ g → scan s f p = scan s g p
  | 0, 0, _, _, _ => rfl
  | 0, g + 1, p, h, _ => by
    simp only [scan]
    rw [if_neg (by omega)]
  | f + 1, 0, p, _, h => by
    simp only [scan]
    rw [if_neg (by omega)]
  | f + 1, g + 1, p, h1, h2 => by
    simp only [scan]
    by_cases hp : p < s.size
    · have := width_pos s p hp
      rw [if_pos hp, if_pos hp, scan_more s f g _ (by omega) (by omega)]
    · rw [if_neg hp, if_neg hp]

/-- The runes from a byte on. -/
def from_ (s : ByteArray) (p : Nat) : List R3 := scan s (s.size - p) p
theorem from_lt (s : ByteArray) (p : Nat) (h : p < s.size) : from_ s p = (p, (Utf8.decode s p).2, (Utf8.decode s p).1) :: from_ s (p + (Utf8.decode s p).2) := by
  have hw := width_pos s p h
  unfold from_
  obtain ⟨f, hf⟩ : ∃ f, s.size - p = f + 1 := ⟨s.size - p - 1, by omega⟩
  rw [hf]
  simp only [scan]
  rw [if_pos h, scan_more s f (s.size - (p + (Utf8.decode s p).2)) _ (by omega) (by omega)]
theorem from_ge (s : ByteArray) (p : Nat) (h : ¬ p < s.size) : from_ s p = [] := by
  unfold from_
  rw [show s.size - p = 0 by omega]
  rfl
/-- All runes. -/
def rs (s : ByteArray) : List R3 := from_ s 0

/-- Who is told rune by rune, until he says no. -/
def go (cont : List R3 → R3 → Bool) : List R3 → List R3 → List R3
  | told, [] => told
  | told, r :: rest => if cont told r = true then go cont (told ++ [r]) rest else told ++ [r]
theorem go_all (told l : List R3) : go (fun _ _ => true) told l = told ++ l := by
  induction l generalizing told with
  | nil => simp [go]
  | cons r l ih => simp [go, ih]

end Go.Proofs.YtaoippnipcchmaaGreatDoor.RuneMath
/- runes.Place: the line and the column of a byte: its walk. -/
namespace Go.Proofs.YtaoippnipcchmaaGreatDoor.PT
open Go.RowKit Go.Proofs.YtaoippnipcchmaaGreatDoorW.PrintWords Go.Proofs.YtaoippnipcchmaaGreatDoorW.PrintLast Go.Proofs.YtaoippnipcchmaaGreatDoorW.PrintMore Go.Proofs.YtaoippnipcchmaaGreatDoor.RuneMath
set_option linter.unusedVariables false
set_option linter.unusedSimpArgs false

/-- From a line and a column on, up to a byte. -/
def placeL (at_ : Int) : List R3 → Int → Int → Int × Int
  | [], l, c => (l, c)
  | r :: rest, l, c => if at_ ≤ r.1 then (l, c) else if r.2.2 = 10 then placeL at_ rest (l + 1) 1 else placeL at_ rest l (c + 1)

def runes_Place.f (a0 : ByteArray) (a1 : Int) : Option (Int × Int × Int) :=
  if a0.size ≤ 4611686018427387904 then
    (if a1 < 0 ∨ (a0.size : Int) < a1 then some (0, 0, 1) else some ((placeL a1 (rs a0) 1 1).1, (placeL a1 (rs a0) 1 1).2, 0))
  else none

theorem bt_' (p : Prop) [Decidable p] (h : p) : decide p = true := decide_eq_true h
theorem bf_' (p : Prop) [Decidable p] (h : ¬ p) : decide p = false := decide_eq_false h

set_option maxHeartbeats 2000000 in
set_option maxRecDepth 100000 in
theorem runes_Place.calls (a0 : ByteArray) (a1 : Int) (r1 r2 r3 : Int) (w : World) (h : runes_Place.f a0 a1 = some (r1, r2, r3)) :
    Calls Tryz.prog 37 #[.string a0, .int .i64 a1] w fun e w' => e = .returned (.tuple #[.int .i64 r1, .int .i64 r2, .int .i64 r3]) ∧ Below w.heap.size w w' := by
  unfold runes_Place.f at h
  split at h
  · rename_i hs
    by_cases h0 : a1 < 0
    · rw [if_pos (.inl h0)] at h
      simp only [Option.some.injEq, Prod.mk.injEq] at h
      obtain ⟨rfl, rfl, rfl⟩ := h
      have b0 := bt_' (a1 < 0) h0
      go_enter Tryz.func37, Tryz.ntmps37
      go_wp2
      go_ret3
      exact ⟨rfl, Below.refl _ _⟩
    have b0 := bf_' (a1 < 0) h0
    by_cases h1 : (a0.size : Int) < a1
    · rw [if_pos (.inr h1)] at h
      simp only [Option.some.injEq, Prod.mk.injEq] at h
      obtain ⟨rfl, rfl, rfl⟩ := h
      have b1 := bt_' ((a0.size : Int) < a1) h1
      go_enter Tryz.func37, Tryz.ntmps37
      go_wp2
      go_ret3
      exact ⟨rfl, Below.refl _ _⟩
    have b1 := bf_' ((a0.size : Int) < a1) h1
    rw [if_neg (by omega)] at h
    simp only [Option.some.injEq, Prod.mk.injEq] at h
    have HR := Lib.hid h
    have HS := Lib.hid hs
    clear h
    go_enter Tryz.func37, Tryz.ntmps37
    go_wp2
    go_loopw [7, 8, 9, 10] (fun v7 v8 v9 v10 wr => ∃ (pos : Nat) (l c : Int), wr = w.iter a0 pos ∧ v7 = .int .i64 l ∧ v8 = .int .i64 c ∧ Hid (placeL a1 (from_ a0 pos) l c = placeL a1 (rs a0) 1 1) ∧ pos ≤ a0.size ∧ 1 ≤ l ∧ l ≤ pos + 1 ∧ 1 ≤ c ∧ c ≤ pos + 1) (fun v7 v8 v9 v10 wr => a0.size - wr.iterPos w.heap.size)
    case atStart => exact ⟨0, 1, 1, rfl, rfl, rfl, rfl, Nat.zero_le _, by omega, by omega, by omega, by omega⟩
    case round =>
      obtain ⟨pos, l, c, rfl, rfl, rfl, hq, hle, hl0, hl1, hc0, hc1⟩ := hrel
      by_cases hp : pos < a0.size
      · have hnx : ∀ ty, (Instr.next (.pointer (some ⟨w.heap.size, 0, none⟩)) true ty).run Tryz.prog (w.iter a0 pos) = _ := fun ty => run_next_any w a0 pos ty hp
        have hwp := width_pos a0 pos hp
        have hwf := width_fits a0 pos hp
        have hfl := from_lt a0 pos hp
        by_cases hg : a1 ≤ pos
        · have hd : placeL a1 (rs a0) 1 1 = (l, c) := by
            rw [← hq.out, hfl]
            simp only [placeL]
            rw [if_pos hg]
          have HD := Lib.hid hd
          have b2 := bt_' (a1 ≤ (pos : Int)) hg
          clear hd hfl hq
          go_wp2
          go_ret3
          obtain ⟨q1, q2, q3⟩ := HR.out
          rw [HD.out] at q1 q2
          exact ⟨by rw [← q1, ← q2, ← q3]; rfl, (Below.refl _ _).alloc (Nat.le_refl _) _⟩
        · have b2 := bf_' (a1 ≤ (pos : Int)) hg
          by_cases hn : (Utf8.decode a0 pos).1 = 10
          · have b3 : (((Utf8.decode a0 pos).1 : Int) == 10) = true := beq_iff_eq.2 (by omega)
            have hd : placeL a1 (from_ a0 (pos + (Utf8.decode a0 pos).2)) (l + 1) 1 = placeL a1 (rs a0) 1 1 := by
              rw [← hq.out, hfl]
              conv => rhs; unfold placeL
              rw [if_neg hg, if_pos hn]
            have HD := Lib.hid hd
            clear hd hfl hq hn
            go_wp2
            go_roundw
            case rel => exact ⟨pos + (Utf8.decode a0 pos).2, l + 1, 1, rfl, rfl, rfl, HD, hwf, by omega, by omega, by omega, by omega⟩
            case measure => simp; omega
          · have b3 : (((Utf8.decode a0 pos).1 : Int) == 10) = false := beq_eq_false_iff_ne.2 (by omega)
            have hd : placeL a1 (from_ a0 (pos + (Utf8.decode a0 pos).2)) l (c + 1) = placeL a1 (rs a0) 1 1 := by
              rw [← hq.out, hfl]
              conv => rhs; unfold placeL
              rw [if_neg hg, if_neg hn]
            have HD := Lib.hid hd
            clear hd hfl hq hn
            go_wp2
            go_roundw
            case rel => exact ⟨pos + (Utf8.decode a0 pos).2, l, c + 1, rfl, rfl, rfl, HD, hwf, by omega, by omega, by omega, by omega⟩
            case measure => simp; omega
      · have hnx : ∀ ty, (Instr.next (.pointer (some ⟨w.heap.size, 0, none⟩)) true ty).run Tryz.prog (w.iter a0 pos) = _ := fun ty => run_next_end w a0 pos ty hp
        have hge := from_ge a0 pos hp
        have hd : placeL a1 (rs a0) 1 1 = (l, c) := by
          rw [← hq.out, hge]
          rfl
        have HD := Lib.hid hd
        clear hd hge hq
        go_wp2
        go_ret3
        obtain ⟨q1, q2, q3⟩ := HR.out
        rw [HD.out] at q1 q2
        exact ⟨by rw [← q1, ← q2, ← q3]; rfl, (Below.refl _ _).alloc (Nat.le_refl _) _⟩
  · cases h

/-- Place tells something at any place of a text. -/
theorem place_any (s : ByteArray) (hs : s.size ≤ 65536) (a : Int) (w : World) : Calls Tryz.prog 37 #[.string s, .int .i64 a] w fun r w' => ∃ l c e : Int, r = .returned (.tuple #[.int .i64 l, .int .i64 c, .int .i64 e]) ∧ Below w.heap.size w w' := by
  obtain ⟨l, c, e, h⟩ : ∃ l c e, runes_Place.f s a = some (l, c, e) := by
    unfold runes_Place.f
    rw [if_pos (by omega)]
    split
    · exact ⟨_, _, _, rfl⟩
    · exact ⟨_, _, _, rfl⟩
  exact (runes_Place.calls s a l c e w h).mono fun r w' hq => ⟨l, c, e, hq.1, hq.2⟩
end Go.Proofs.YtaoippnipcchmaaGreatDoor.PT
/- TopCode: the coder's block, function. -/
namespace Go.Proofs.YtaoippnipcchmaaGreatDoor.PT
open Go.RowKit Go.Proofs.YtaoippnipcchmaaGreatDoorW.PrintWords Go.Proofs.YtaoippnipcchmaaGreatDoorW.PrintLast Go.Proofs.YtaoippnipcchmaaGreatDoorW.PrintMore
open Go.Proofs.YtaoippnipcchmaaGreatDoor.TP
set_option linter.unusedVariables false
set_option linter.unusedSimpArgs false

theorem Cd.names {w0 w : World} {g : Nat} {F : Fx} {code : List In} {v : Value} (h : Cd w0 g F code v w) : Cd w0 g F code v (w.setCell ⟨g, 10, none⟩ (.slice none 0 0)) ∧ Adv g v v w (w.setCell ⟨g, 10, none⟩ (.slice none 0 0)) :=
  ⟨⟨blk_put h.bg 10 _ rfl, Kd.R_far h.row (fun k hk => hk) _, h.b0.setCell h.g0 _, h.g0⟩, ⟨by simp, fun k hk hks hv => Below.heap_setCell w ⟨g, 10, none⟩ _ k hks, .inl rfl⟩⟩
/-- What the block lays. -/
def blkL (line : Int) (cd : Nat → List In) : List In := [⟨1, line, 0, 0⟩] ++ [⟨22, 0, 0, 0⟩] ++ cd 2 ++ [⟨25, 0, 0, 0⟩]
set_option maxHeartbeats 8000000 in
set_option maxRecDepth 100000 in
theorem gblock_call {w0 w : World} {g : Nat} {F : Fx} {v : Value} (h : Cd w0 g F [] v w) (hs : F.src.size ≤ 65536) (r1 : ByteArray) (r2 r3 : Int) (y : Nd) (hk : y.f0 ≠ 8) (cd : Nat → List In) (hy : GenC w0 g F y cd) (hl : (cd 2).length ≤ 50000) (k : Int) (t : ByteArray) (n a : Int) (A : Option Addr) (c : Nat) (hc : 1 ≤ c) (hC : Kd.C k51 w0 A 1 [⟨30, r1, r2, r3, [y]⟩]) :
    Calls Tryz.prog 20 #[.pointer (some ⟨g, 0, none⟩), .agg #[.int .i64 k, .string t, .int .i64 n, .int .i64 a, .slice A 1 c]] w (fun r w' => ∃ line : Int, GdRes w0 g F (blkL line cd) v w r w') := by
  have H := Lib.hid h
  have HL := Lib.hid (And.intro hl (And.intro hy (And.intro hk hs)))
  have HC := Lib.hid (And.intro hc hC)
  obtain ⟨w1, hw1, hb1, hn1⟩ := box_node w k t n a (.slice A 1 c)
  have B1 := Lib.hid hb1
  have N1 := Lib.hid hn1
  have K1 := Lib.hid (H.out.below hb1)
  have hu51 := Tryz.underlying51
  clear h hl hy hk hc hC hb1 hn1 hs
  obtain ⟨n0, n1, n2, n3, n4⟩ := five_of N1.out
  have g10 := K1.out.c10
  go_enter Tryz.func20, Tryz.ntmps20
  go_wp2_with fail
  go_loopg [18] 1 (fun kq v8 wr => ∃ j : Nat, v8 = .int .i64 (j : Int) ∧ RowKit.Hid (kq + j = 1 ∧ ((j = 0 ∧ Cd w0 g F [] v wr ∧ Adv g v v w wr) ∨ (j = 1 ∧ ∃ line : Int, ∃ v', Cd w0 g F (blkL line cd) v' wr ∧ Adv g v v' w wr))))
  case atStart => exact ⟨0, rfl, Lib.hid ⟨rfl, .inl ⟨rfl, K1.out, Adv.of_below B1.out⟩⟩⟩
  case round =>
    clear n0 n1 n2 n3 n4 g10
    obtain ⟨j, rfl, HJ⟩ := hrel
    rcases HJ.out.2 with ⟨hj, hK, hA⟩ | ⟨hj, line, v', hK, hA⟩
    · obtain ⟨k1, rfl⟩ : ∃ k1, gk = k1 + 1 := ⟨gk - 1, by have := HJ.out.1; omega⟩
      subst hj
      have hk1 := Lib.hid (show k1 = 0 by have := HJ.out.1; omega)
      have K := Lib.hid (And.intro hK hA)
      obtain ⟨ad, A4, c4, rfl, x0, x1, x2, x3, x4, l4, g4⟩ := kid_0 HC.out.2 hK.b0 (by omega) ⟨30, r1, r2, r3, [y]⟩ rfl
      have G4 := Lib.hid (And.intro l4 g4)
      clear l4 g4 hK hA HJ
      go_wp2_with (first | ((with_reducible refine gate_dst (N := 6) rfl ?_); refine box_event ?hg (N := 6) ?hd (cs := #[.int .i64 0, .string (⟨#[]⟩ : ByteArray), .int .i64 0, .int .i64 0, .slice none 0 0]) (t := 51) ?hr ?_; (case hd => rfl); (case hg => rfl); (case hr => first | (go_simp; done) | (go_simp; rfl)); intro gb hg w9 hbox hb; have HB9 := Lib.hid (And.intro hg (And.intro hb hbox)); have z0 : w9.cell? ⟨gb, 0, none⟩ = some (.int .i64 0) := (blk_cell hbox 0).trans rfl; have z1 : w9.cell? ⟨gb, 1, none⟩ = some (.string (⟨#[]⟩ : ByteArray)) := (blk_cell hbox 1).trans rfl; have z2 : w9.cell? ⟨gb, 2, none⟩ = some (.int .i64 0) := (blk_cell hbox 2).trans rfl; have z3 : w9.cell? ⟨gb, 3, none⟩ = some (.int .i64 0) := (blk_cell hbox 3).trans rfl; have z4 : w9.cell? ⟨gb, 4, none⟩ = some (.slice none 0 0) := (blk_cell hbox 4).trans rfl; have f0 := blk_frozen hbox 0; have f1 := blk_frozen hbox 1; have f2 := blk_frozen hbox 2; have f3 := blk_frozen hbox 3; have f4 := blk_frozen hbox 4; clear hbox hb hg))
      obtain ⟨w5, hw5, hn5, hb5⟩ : ∃ w5, ((((w9.setCell ⟨gb, 0, none⟩ (.int .i64 30)).setCell ⟨gb, 1, none⟩ (.string r1)).setCell ⟨gb, 2, none⟩ (.int .i64 r2)).setCell ⟨gb, 3, none⟩ (.int .i64 r3)).setCell ⟨gb, 4, none⟩ (.slice A4 1 c4) = w5 ∧ w5.heap[gb]? = some (.cells #[.int .i64 30, .string r1, .int .i64 r2, .int .i64 r3, .slice A4 1 c4] 51 (0, 0)) ∧ Below wr.heap.size wr w5 :=
        ⟨_, rfl, five_set _ _ _ _ _ HB9.out.2.2, HB9.out.2.1.trans ((five_fr _ _ _ _ _).below (by have := HB9.out.2.1.size; omega) (fun k hk => by have := HB9.out.1; omega))⟩
      rw [hw5]
      have K5 := Lib.hid (And.intro (K.out.1.below hb5) (K.out.2.trans (Adv.of_below hb5)))
      have N5 := Lib.hid hn5
      have HG := Lib.hid (⟨by have := HB9.out.1; have := blt K.out.1.bg; omega, fun e => by have := K.out.1.own e; have := HB9.out.1; omega⟩ : gb ≠ g ∧ v.ownBlock ≠ some gb)
      clear hw5 hn5 hb5 HB9 z0 z1 z2 z3 z4 f0 f1 f2 f3 f4 x0 x1 x2 x3 x4 K
      obtain ⟨n0, n1, n2, n3, n4⟩ := five_of N5.out
      have g5 := K5.out.1.c5
      have hpl := place_any F.src HL.out.2.2.2 r3 w5.drew
      have HPL := Lib.hid hpl
      clear hpl
      go_region_with (go_at_call 37; refine HPL.out.mono ?_; rintro r w6 ⟨line, pc, pe, rfl, hb6⟩)
      all_goals
        have hb56 := (Below.refl w5.heap.size w5).drew.trans hb6
        have K6 := Lib.hid (And.intro (K5.out.1.below hb56) (K5.out.2.trans (Adv.of_below hb56)))
        have N6 := Lib.hid (Bel.blk hb56 N5.out)
        clear hb6 hb56 n0 n1 n2 n3 n4 g5
        go_wp2_with fail
        have hb7 := below_alloc (Below.refl w6.heap.size w6) (.cells #[.int .i64 line] 3)
        have N7 := Lib.hid (blk_alloc N6.out (.cells #[.int .i64 line] 3))
        refine (add_call (K6.out.1.below hb7) (by simp) 1 line _ (opnd_one ((blk_cell (heap_alloc_new w6 (.cells #[.int .i64 line] 3)) 0).trans rfl))).mono ?_
        rintro r w8 ⟨rfl, v8, hK8, hA8⟩
        have K8 := Lib.hid (And.intro hK8 ((K6.out.2.trans (Adv.of_below hb7)).trans hA8))
        have hn8 := hA8.blk N7.out HG.out.1 HG.out.2
        obtain ⟨n0, n1, n2, n3, n4⟩ := five_of hn8
        clear hK8 hA8 hb7 hn8
        go_wp2_with fail
        refine (stat_ret K8.out.1 y HL.out.2.2.1 cd HL.out.2.1 (by have := HL.out.1; show 1 + 1 + (cd 2).length ≤ 60000; omega) r1 r2 r3 A4 c4 G4.out.1 G4.out.2).mono ?_
        rintro r w9 ⟨rfl, v9, hK9, hA9⟩
        have K9 := Lib.hid (And.intro (show Cd w0 g F (blkL line cd) v9 w9 from hK9) (K8.out.2.trans hA9))
        clear hK9 hA9 n0 n1 n2 n3 n4
        go_wp2_with fail
        go_roundg k1
        case measure => omega
        case rel => exact ⟨1, rfl, Lib.hid ⟨by have := hk1.out; omega, .inr ⟨rfl, line, v9, K9.out.1, K9.out.2⟩⟩⟩
    · subst hj
      have K := Lib.hid (And.intro hK hA)
      have g10 := hK.c10
      have f10 := blk_frozen hK.bg 10
      clear hK hA HJ
      go_wp2_with fail
      go_end0
      have hQ := K.out.1.names
      exact ⟨line, rfl, v', hQ.1, K.out.2.trans hQ.2⟩
set_option maxHeartbeats 8000000 in
set_option maxRecDepth 100000 in
theorem gfunc_call {w0 w : World} {g : Nat} {F : Fx} {v : Value} (h : Cd w0 g F [] v w) (hs : F.src.size ≤ 65536) (e : Ex) (hok : e.ok) (hz : e.size ≤ 1000) (hK : Kons w0 F (e.cons [])) (x : Nd) (hx : Sh (rootOf e) x) (A : Option Addr) (c : Nat) (hc : x.f4.length ≤ c) (hC : Kd.C k51 w0 A x.f4.length x.f4) :
    Calls Tryz.prog 10 #[.pointer (some ⟨g, 0, none⟩), .agg #[.int .i64 x.f0, .string x.f1, .int .i64 x.f2, .int .i64 x.f3, .slice A x.f4.length c]] w (fun r w' => ∃ line : Int, GdRes w0 g F (codeOf line (e.cons []) e) v w r w') := by
  obtain ⟨x0, x1, x2, x3, x4⟩ := x
  obtain ⟨-, -, -, z, h4, hz'⟩ := hx
  obtain ⟨z0, z1, z2, z3, z4⟩ := z
  obtain ⟨hz0, -, -, y, hy4, hy⟩ := hz'
  simp only at h4 hz0 hy4 hc hC ⊢
  subst h4 hz0 hy4
  have hlen : ((e.code (e.cons []) 2)).length ≤ 50000 := by rw [code_len]; omega
  have hk : y.f0 ≠ 8 := by
    cases e with
    | num n => have := hy.1; omega
    | op o a b => have := hy.1; omega
    | neg a => have := hy.1; omega
  have hcode := gen_ex (g := g) hK e hok (fun n hn => foldl_mem e.nums [] n hn) y hy
  have H := Lib.hid h
  have HQ := Lib.hid (fun (W : World) (hW : Below w.heap.size w W) => gblock_call (h.below hW) hs z1 z2 z3 y hk _ hcode hlen x0 x1 x2 x3 A c hc hC)
  have HZ := Lib.hid hlen
  simp only [List.length_cons, List.length_nil]
  clear h hs hok hz hK hc hC hlen hk hcode hy
  go_enter Tryz.func10, Tryz.ntmps10
  go_wp2_with fail
  obtain ⟨w1, hw1, hb1, hn1⟩ := box_node w x0 x1 x2 x3 (.slice A 1 c)
  rw [hw1]
  have B1 := Lib.hid hb1
  obtain ⟨n0, n1, n2, n3, n4⟩ := five_of hn1
  clear hw1 hb1 hn1
  go_wp2_with fail
  refine (HQ.out w1 B1.out).mono ?_
  rintro r w2 ⟨line, rfl, v2, hK2, hA2⟩
  have K2 := Lib.hid (And.intro hK2 ((Adv.of_below B1.out).trans hA2))
  have hl2 : (blkL line (e.code (e.cons []))).length ≤ 60000 := by unfold blkL; have := HZ.out; simp only [List.length_append, List.length_singleton]; omega
  have HL2 := Lib.hid hl2
  clear hK2 hA2 n0 n1 n2 n3 n4 hl2
  go_wp2_with fail
  refine (add_call K2.out.1 (by have := HL2.out; omega) 22 0 _ (opnd_none w2)).mono ?_
  rintro r w3 ⟨rfl, v3, hK3, hA3⟩
  have K3 := Lib.hid (And.intro hK3 (K2.out.2.trans hA3))
  clear hK3 hA3
  go_wp2_with fail
  refine (add_call K3.out.1 (by have := HL2.out; rw [List.length_append, List.length_singleton]; omega) 25 0 _ (opnd_none w3)).mono ?_
  rintro r w4 ⟨rfl, v4, hK4, hA4⟩
  have K4 := Lib.hid (And.intro hK4 (K3.out.2.trans hA4))
  clear hK4 hA4
  go_wp2_with fail
  go_end0
  refine ⟨line, rfl, v4, ?_, K4.out.2⟩
  have q := K4.out.1
  have e : blkL line (e.code (e.cons [])) ++ [⟨22, 0, 0, 0⟩] ++ [⟨25, 0, 0, 0⟩] = codeOf line (e.cons []) e := by unfold blkL codeOf; simp
  rw [e] at q
  exact q
end Go.Proofs.YtaoippnipcchmaaGreatDoor.PT
/- TopCode: Gen. -/
namespace Go.Proofs.YtaoippnipcchmaaGreatDoor.PT
open Go.RowKit Go.Proofs.YtaoippnipcchmaaGreatDoorW.PrintWords Go.Proofs.YtaoippnipcchmaaGreatDoorW.PrintLast Go.Proofs.YtaoippnipcchmaaGreatDoorW.PrintMore
open Go.Proofs.YtaoippnipcchmaaGreatDoor.TP
set_option linter.unusedVariables false
set_option linter.unusedSimpArgs false

/-- These blocks are as told. -/
def Keep : List (Nat × Obj) → World → Prop
  | [], _ => True
  | p :: l, w => w.heap[p.1]? = some p.2 ∧ Keep l w
theorem Keep.below {w w' : World} (hb : Below w.heap.size w w') : ∀ {l : List (Nat × Obj)}, Keep l w → Keep l w'
  | [], _ => trivial
  | _ :: _, h => ⟨Bel.blk hb h.1, Keep.below hb h.2⟩
theorem Keep.fr {w w' : World} {c : Nat → Prop} (hF : Fr c w w') : ∀ {l : List (Nat × Obj)}, (∀ p ∈ l, ¬ c p.1) → Keep l w → Keep l w'
  | [], _, _ => trivial
  | _ :: _, hc, h => ⟨hF.blk h.1 (hc _ List.mem_cons_self), Keep.fr hF (fun p hp => hc p (List.mem_cons_of_mem _ hp)) h.2⟩
theorem Keep.adv {w w' : World} {s : Nat} {v v' : Value} (hA : Adv s v v' w w') : ∀ {l : List (Nat × Obj)}, (∀ p ∈ l, p.1 ≠ s ∧ v.ownBlock ≠ some p.1) → Keep l w → Keep l w'
  | [], _, _ => trivial
  | _ :: _, hc, h => ⟨hA.blk h.1 (hc _ List.mem_cons_self).1 (hc _ List.mem_cons_self).2, Keep.adv hA (fun p hp => hc p (List.mem_cons_of_mem _ hp)) h.2⟩
/-- Blocks below the base are written. -/
theorem R_fr {α : Type} {d : Kd α} {e : Nat} {w w' : World} {B : Nat} {ok c : Nat → Prop} {v : Value} {xs : List α} (h : d.R e w B ok v xs) (hF : Fr c w w') (hc : ∀ k, c k → k < B) : d.R e w' B ok v xs :=
  Kd.R_mono (Kd.R_step (Kd.R_bound h) (fun k hk hlt => hF.block k hlt (fun e => by have := hc k e; have := hk.2.1; omega))) (fun _ hk => hk.1)
/-- What Gen tells: one unit, its constants, its code. -/
def ProgOk (w : World) (cs : List Int) (code : List In) (v : Value) : Prop := ∃ bu cu A c A' c', v = .agg #[.slice (some ⟨bu, 0, none⟩) 1 cu, .slice none 0 0] ∧ w.cell? ⟨bu, 0, none⟩ = some (.string ⟨#[]⟩) ∧ w.cell? ⟨bu, 1, none⟩ = some (.int .i64 0) ∧ w.cell? ⟨bu, 2, none⟩ = some (.int .i64 0) ∧ w.cell? ⟨bu, 3, none⟩ = some (.slice A cs.length c) ∧ w.cell? ⟨bu, 4, none⟩ = some (.slice A' code.length c') ∧ cs.length ≤ c ∧ code.length ≤ c' ∧ Kd.C k67 w A cs.length (valsOf cs) ∧ Kd.C k65 w A' code.length (ixs code)
/-- What lies in memory ahead of Gen's loop. -/
def genL (r0 b rb tb : Nat) (at_ : Int) (sl : Value) (x : Nd) (A : Option Addr) (cx : Nat) : List (Nat × Obj) := [(r0, .cells #[.slice none 0 0, .slice none 0 0] 28 (0, 0)), (r0 + 1, .cells #[.int .i64 0, .int .i64 0] 31 (0, 0)), (b, .cells #[.string ⟨#[]⟩, .int .i64 at_, .int .i64 0, .int .i64 0, sl] 55 (0, 0)), (rb, .cells #[.slice (some ⟨b, 0, none⟩) 1 1, .slice none 0 0] 46 (0, 0)), (rb + 1, .cells #[.int .i64 0, .int .i64 0] 31 (0, 0)), (tb, .cells #[.int .i64 x.f0, .string x.f1, .int .i64 x.f2, .int .i64 x.f3, .slice A x.f4.length cx] 51 (0, 0))]
def unitC (sl vc : Value) : List Value := [.string ⟨#[]⟩, .int .i64 0, .int .i64 0, sl, vc]
theorem info_unit : (Tryz.prog.info? 39).map (fun i => (i.zero, i.size, i.bytes)) = some (some (.agg #[.string ⟨#[]⟩, .int .i64 0, .int .i64 0, .slice none 0 0, .slice none 0 0]), 5, 80) := by kernel_rfl
theorem raw_one {w : World} {t base : Nat} {ok : Nat → Prop} {v : Value} {u : List Value} (h : (Kd.raw 5).R t w base ok v [u]) : ∃ bu cu, v = .slice (some ⟨bu, 0, none⟩) 1 cu := by
  obtain ⟨A, c, rfl, h1, h2⟩ := Kd.R_reads h
  obtain ⟨ad, rfl, _⟩ := h2.2.2 (by simp)
  obtain ⟨b, rfl⟩ := Kd.R_head h
  exact ⟨b, c, rfl⟩
theorem unit_cells {w : World} {t base : Nat} {ok : Nat → Prop} {bu cu : Nat} {sl vc : Value} (h : (Kd.raw 5).R t w base ok (.slice (some ⟨bu, 0, none⟩) 1 cu) [unitC sl vc]) : w.cell? ⟨bu, 0, none⟩ = some (.string ⟨#[]⟩) ∧ w.cell? ⟨bu, 1, none⟩ = some (.int .i64 0) ∧ w.cell? ⟨bu, 2, none⟩ = some (.int .i64 0) ∧ w.cell? ⟨bu, 3, none⟩ = some sl ∧ w.cell? ⟨bu, 4, none⟩ = some vc ∧ ∀ j, w.frozen? ⟨bu, j, none⟩ = false := by
  obtain ⟨c0, hc0, hM0, hcc0, hfz0⟩ := Kd.R_elem h [] (0 : Int) (by omega) (by omega)
  obtain ⟨hcu, -, -⟩ := hM0
  have hcu' : c0 = unitC sl vc := hcu
  subst hcu'
  have e : ∀ j, (Int.toNat 0) * (Kd.raw 5).sz + j = j := fun j => by simp
  have hc : ∀ j u, (unitC sl vc)[j]? = some u → w.cell? ⟨bu, j, none⟩ = some u := fun j u hu => by have := hcc0 j u hu; rw [e] at this; exact this
  exact ⟨hc 0 _ rfl, hc 1 _ rfl, hc 2 _ rfl, hc 3 _ rfl, hc 4 _ rfl, fun j => by have := hfz0 j; rw [e] at this; exact this⟩
theorem fin_sets {w7 : World} {R : Nat} {t t' : TypeId} {a b : Value} (v0 v1 : Value) (h1 : w7.heap[R]? = some (.cells #[a, b] t (0, 0))) (h2 : w7.heap[R + 1]? = some (.cells #[.int .i64 0, .int .i64 0] t' (0, 0))) :
    ∃ w8, ((((w7.setCell ⟨R, 0, none⟩ v0).setCell ⟨R, 1, none⟩ v1).setCell ⟨R + 1, 0, none⟩ (.int .i64 0)).setCell ⟨R + 1, 1, none⟩ (.int .i64 0)).drew = w8 ∧ w8.heap[R]? = some (.cells #[v0, v1] t (0, 0)) ∧ w8.heap[R + 1]? = some (.cells #[.int .i64 0, .int .i64 0] t' (0, 0)) ∧ Fr (fun k => k = R ∨ k = R + 1) w7 w8 := by
  have hFr : Fr (fun k => k = R ∨ k = R + 1) w7 ((w7.setCell ⟨R, 0, none⟩ v0).setCell ⟨R, 1, none⟩ v1) := (Fr.set (c := fun k => k = R ∨ k = R + 1) (p := ⟨R, 0, none⟩) (.inl rfl) _).trans (Fr.set (c := fun k => k = R ∨ k = R + 1) (p := ⟨R, 1, none⟩) (.inl rfl) _)
  have k1 := blk_put (cs := #[v0, b]) (blk_put (cs := #[a, b]) h1 0 v0 rfl) 1 v1 rfl
  have k2 := blk_far (p := ⟨R, 1, none⟩) (blk_far (p := ⟨R, 0, none⟩) h2 (by show R + 1 ≠ R; omega) v0) (by show R + 1 ≠ R; omega) v1
  obtain ⟨W, hW⟩ : ∃ W, (w7.setCell ⟨R, 0, none⟩ v0).setCell ⟨R, 1, none⟩ v1 = W := ⟨_, rfl⟩
  rw [hW] at hFr k1 k2
  rw [hW]
  have hF2 : Fr (fun k => k = R ∨ k = R + 1) W ((W.setCell ⟨R + 1, 0, none⟩ (.int .i64 0)).setCell ⟨R + 1, 1, none⟩ (.int .i64 0)) := (Fr.set (c := fun k => k = R ∨ k = R + 1) (p := ⟨R + 1, 0, none⟩) (.inr rfl) _).trans (Fr.set (c := fun k => k = R ∨ k = R + 1) (p := ⟨R + 1, 1, none⟩) (.inr rfl) _)
  have m2 := blk_put (cs := #[.int .i64 0, .int .i64 0]) (blk_put (cs := #[.int .i64 0, .int .i64 0]) k2 0 (.int .i64 0) rfl) 1 (.int .i64 0) rfl
  have m1 := blk_far (p := ⟨R + 1, 1, none⟩) (blk_far (p := ⟨R + 1, 0, none⟩) k1 (by show R ≠ R + 1; omega) (.int .i64 0)) (by show R ≠ R + 1; omega) (.int .i64 0)
  exact ⟨_, rfl, blk_drew m1, blk_drew m2, (hFr.trans hF2).trans (Fr.of_below (below_drew1 (Below.refl _ _)))⟩
theorem unit_put {w : World} {t base : Nat} {ok : Nat → Prop} {bu cu : Nat} {A A' B B' : Option Addr} {n c n' c' m d m' d' : Nat} (h : (Kd.raw 5).R t w base ok (.slice (some ⟨bu, 0, none⟩) 1 cu) [unitC (.slice A n c) (.slice A' n' c')]) :
    (Kd.raw 5).R t (((((w.setCell ⟨bu, 0, none⟩ (.string ⟨#[]⟩)).setCell ⟨bu, 1, none⟩ (.int .i64 0)).setCell ⟨bu, 2, none⟩ (.int .i64 0)).setCell ⟨bu, 3, none⟩ (.slice B m d)).setCell ⟨bu, 4, none⟩ (.slice B' m' d')) base ok (.slice (some ⟨bu, 0, none⟩) 1 cu) [unitC (.slice B m d) (.slice B' m' d')] := by
  obtain ⟨c0, hc0, hM0, hcc0, hfz0⟩ := Kd.R_elem h [] (0 : Int) (by omega) (by omega)
  exact (Kd.R_seg (seg := unitC (.slice B m d) (.slice B' m' d')) (j := 0) (x' := unitC (.slice B m d) (.slice B' m' d')) (okp := fun _ => False) h (0 : Int) (by omega) (by omega) hc0 hcc0 (show 0 + 5 ≤ 5 by decide)
    (by
      have h5 : c0.length = 5 := hc0
      have e : c0.take 0 ++ unitC (.slice B m d) (.slice B' m' d') ++ c0.drop (0 + (unitC (.slice B m d) (.slice B' m' d')).length) = unitC (.slice B m d) (.slice B' m' d') := by
        have : c0.drop (0 + (unitC (.slice B m d) (.slice B' m' d')).length) = [] := List.drop_eq_nil_of_le (by rw [h5]; exact Nat.le_refl 5)
        rw [this]; simp
      rw [e]
      exact ⟨rfl, rfl, fun u hu => by simp [unitC] at hu; rcases hu with rfl | rfl | rfl | rfl <;> rfl⟩) (fun _ hk => hk.elim)).1
theorem Keep.lt {w : World} : ∀ {l : List (Nat × Obj)}, Keep l w → ∀ p ∈ l, p.1 < w.heap.size
  | [], _, p, hp => by simp at hp
  | q :: l, h, p, hp => by
    rcases List.mem_cons.1 hp with rfl | hp
    · exact blt h.1
    · exact Keep.lt h.2 p hp
theorem unit_M (w : World) (base : Nat) (ok : Nat → Prop) (A A' : Option Addr) (n c n' c' : Nat) : (Kd.raw 5).M w base ok (unitC (.slice A n c) (.slice A' n' c')) (unitC (.slice A n c) (.slice A' n' c')) := ⟨rfl, rfl, fun u hu => by simp [unitC] at hu; rcases hu with rfl | rfl | rfl | rfl <;> rfl⟩
set_option maxHeartbeats 8000000 in
set_option maxRecDepth 100000 in
theorem gen_call (e : Ex) (hok : e.ok) (hops : e.ops + 1 ≤ 250) (hhi : e.high ≤ 40) (src : ByteArray) (hs : src.size ≤ 65536) (w : World) (hsc : ∀ W, Below w.heap.size w W → Calls Tryz.prog 15 #[.string src] W (ScanRes e W)) :
    Calls Tryz.prog 5 #[.string src] w fun r w' => ∃ line : Int, ∃ v, r = .returned (.tuple #[v, .agg #[.int .i64 0, .int .i64 0]]) ∧ ProgOk w' (e.cons []) (codeOf line (e.cons []) e) v ∧ Below w.heap.size w w' := by
  have HP := Lib.hid (fun (W : World) (hW : Below w.heap.size w W) => parse_at e hok src W (fun V hV => hsc V (hW.trans (hV.mono hW.size))))
  have HCK := Lib.hid (fun (W : World) (hW : Below w.heap.size w W) => check_call e hok hops hhi src W (fun V hV => hsc V (hW.trans (hV.mono hW.size))))
  have HO := Lib.hid (And.intro hok (And.intro hops (And.intro hhi hs)))
  have hfl : ∀ (x0 x1 : Int) (w : World), (Instr.field 31 (.agg #[.int .i64 x0, .int .i64 x1]) 0).run Tryz.prog w = .ok (.int .i64 x0) w := fun _ _ _ => by kernel_rfl
  clear hsc hok hops hhi hs
  go_enter Tryz.func5, Tryz.ntmps5
  go_wp2_with fail
  obtain ⟨w1, hw1, hb1, hk1, hs1⟩ : ∃ w1, (w.alloc (.cells #[.slice none 0 0, .slice none 0 0] 28)).alloc (.cells #[.int .i64 0, .int .i64 0] 31) = w1 ∧ Below w.heap.size w w1 ∧ Keep [(w.heap.size, .cells #[.slice none 0 0, .slice none 0 0] 28 (0, 0)), (w.heap.size + 1, .cells #[.int .i64 0, .int .i64 0] 31 (0, 0))] w1 ∧ w1.heap.size = w.heap.size + 2 :=
    ⟨_, rfl, ((Below.refl _ _).alloc (Nat.le_refl _) _).alloc (by simp) _, ⟨(Below.heap_alloc _ _ _ (by simp)).trans (heap_alloc_new _ _), by have := heap_alloc_new (w.alloc (.cells #[.slice none 0 0, .slice none 0 0] 28)) (.cells #[.int .i64 0, .int .i64 0] 31); simpa using this, trivial⟩, by simp⟩
  rw [hw1]
  refine (HCK.out w1 hb1).mono ?_
  rintro r w2 ⟨v, rfl, hrep, hb2⟩
  obtain ⟨b, at_, Av, cv, rfl, hbb, hbo, hcC⟩ := hrep
  have S2 := Lib.hid (show w.heap.size + 2 ≤ b ∧ b < w2.heap.size by rw [← hs1]; exact ⟨hbb, blt hbo⟩)
  have k2 := Keep.below hb2 hk1
  have B2 := Lib.hid (hb1.trans (hb2.mono hb1.size))
  have C2 := Lib.hid (Kd.R_lower hcC (show w.heap.size + 2 ≤ w1.heap.size by omega))
  have K2 := Lib.hid (show Keep [(w.heap.size, .cells #[.slice none 0 0, .slice none 0 0] 28 (0, 0)), (w.heap.size + 1, .cells #[.int .i64 0, .int .i64 0] 31 (0, 0)), (b, .cells #[.string ⟨#[]⟩, .int .i64 at_, .int .i64 0, .int .i64 0, .slice Av (e.cons []).length cv] 55 (0, 0))] w2 from ⟨k2.1, k2.2.1, hbo, trivial⟩)
  clear hw1 hb1 hk1 hs1 hb2 hbb hbo hcC k2
  go_wp2_with fail
  obtain ⟨w3, hw3, hb3, hk3, hs3⟩ : ∃ w3, (w2.alloc (.cells #[.slice (some ⟨b, 0, none⟩) 1 1, .slice none 0 0] 46)).alloc (.cells #[.int .i64 0, .int .i64 0] 31) = w3 ∧ Below w2.heap.size w2 w3 ∧ Keep [(w2.heap.size, .cells #[.slice (some ⟨b, 0, none⟩) 1 1, .slice none 0 0] 46 (0, 0)), (w2.heap.size + 1, .cells #[.int .i64 0, .int .i64 0] 31 (0, 0))] w3 ∧ w3.heap.size = w2.heap.size + 2 :=
    ⟨_, rfl, ((Below.refl _ _).alloc (Nat.le_refl _) _).alloc (by simp) _, ⟨(Below.heap_alloc _ _ _ (by simp)).trans (heap_alloc_new _ _), by have := heap_alloc_new (w2.alloc (.cells #[.slice (some ⟨b, 0, none⟩) 1 1, .slice none 0 0] 46)) (.cells #[.int .i64 0, .int .i64 0] 31); simpa using this, trivial⟩, by simp⟩
  rw [hw3]
  refine (HP.out w3 (B2.out.trans (hb3.mono B2.out.size))).mono ?_
  rintro r w4 ⟨x, v, rfl, ⟨A, cx, rfl, hR⟩, hS, hb4⟩
  have K4 := Lib.hid (Keep.below (hb3.trans (hb4.mono hb3.size)) K2.out)
  have J4 := Lib.hid (Keep.below hb4 hk3)
  have B4 := Lib.hid (B2.out.trans ((hb3.trans (hb4.mono hb3.size)).mono B2.out.size))
  have B24 := Lib.hid (show Below w2.heap.size w2 w4 from hb3.trans (hb4.mono hb3.size))
  have T4 := Lib.hid (And.intro (Kd.R_lower hR (show w2.heap.size + 2 ≤ w3.heap.size by omega)) hS)
  have S4 := Lib.hid (show w2.heap.size + 2 ≤ w4.heap.size by rw [← hs3]; exact hb4.size)
  clear hw3 hb3 hk3 hs3 hb4 hR hS K2 B2
  have ja := Keep.below (below_alloc (Below.refl _ _) (.cells #[.int .i64 x.f0, .string x.f1, .int .i64 x.f2, .int .i64 x.f3, .slice A x.f4.length cx] 51)) J4.out
  obtain ⟨f0, f1, z0, z1⟩ := two_of ja.2.1
  obtain ⟨r0, r1, y0, y1⟩ := two_of ja.1
  have hne : w4.heap.size ≠ w2.heap.size + 1 := by have := S4.out; omega
  have hnf : w2.heap.size + 1 ≠ w4.heap.size := Ne.symm hne
  go_upto_region 5 with (fail)
  obtain ⟨w5, hw5, hk5, hb5, hs5, hT5⟩ : ∃ w5, ((w4.alloc (.cells #[.int .i64 x.f0, .string x.f1, .int .i64 x.f2, .int .i64 x.f3, .slice A x.f4.length cx] 51)).setCell ⟨w2.heap.size + 1, 0, none⟩ (.int .i64 0)).setCell ⟨w2.heap.size + 1, 1, none⟩ (.int .i64 0) = w5 ∧ Keep [(w.heap.size, .cells #[.slice none 0 0, .slice none 0 0] 28 (0, 0)), (w.heap.size + 1, .cells #[.int .i64 0, .int .i64 0] 31 (0, 0)), (b, .cells #[.string ⟨#[]⟩, .int .i64 at_, .int .i64 0, .int .i64 0, .slice Av (e.cons []).length cv] 55 (0, 0)), (w2.heap.size, .cells #[.slice (some ⟨b, 0, none⟩) 1 1, .slice none 0 0] 46 (0, 0)), (w2.heap.size + 1, .cells #[.int .i64 0, .int .i64 0] 31 (0, 0)), (w4.heap.size, .cells #[.int .i64 x.f0, .string x.f1, .int .i64 x.f2, .int .i64 x.f3, .slice A x.f4.length cx] 51 (0, 0))] w5 ∧ Below w2.heap.size w4 w5 ∧ w5.heap.size = w4.heap.size + 1 ∧ RK w5 (w2.heap.size + 2) (fun _ => True) (.slice A x.f4.length cx) x.f4 := by
    obtain ⟨W, hW⟩ : ∃ W, w4.alloc (.cells #[.int .i64 x.f0, .string x.f1, .int .i64 x.f2, .int .i64 x.f3, .slice A x.f4.length cx] 51) = W := ⟨_, rfl⟩
    have hal := heap_alloc_new w4 (.cells #[.int .i64 x.f0, .string x.f1, .int .i64 x.f2, .int .i64 x.f3, .slice A x.f4.length cx] 51)
    have hbl := below_alloc (Below.refl w4.heap.size w4) (.cells #[.int .i64 x.f0, .string x.f1, .int .i64 x.f2, .int .i64 x.f3, .slice A x.f4.length cx] 51)
    have hsz : (w4.alloc (.cells #[.int .i64 x.f0, .string x.f1, .int .i64 x.f2, .int .i64 x.f3, .slice A x.f4.length cx] 51)).heap.size = w4.heap.size + 1 := by simp
    rw [hW] at hal hbl hsz
    rw [hW]
    have hFr : Fr (fun k => k = w2.heap.size + 1) W ((W.setCell ⟨w2.heap.size + 1, 0, none⟩ (.int .i64 0)).setCell ⟨w2.heap.size + 1, 1, none⟩ (.int .i64 0)) := (Fr.set (c := fun k => k = w2.heap.size + 1) (p := ⟨w2.heap.size + 1, 0, none⟩) rfl _).trans (Fr.set (c := fun k => k = w2.heap.size + 1) (p := ⟨w2.heap.size + 1, 1, none⟩) rfl _)
    obtain ⟨k1, k2, k3, _⟩ := Keep.below hbl K4.out
    obtain ⟨k4, k5, _⟩ := Keep.below hbl J4.out
    have hS2 := S2.out
    exact ⟨_, rfl, ⟨hFr.blk k1 (by show ¬ w.heap.size = w2.heap.size + 1; omega), hFr.blk k2 (by show ¬ w.heap.size + 1 = w2.heap.size + 1; omega), hFr.blk k3 (by show ¬ b = w2.heap.size + 1; omega), hFr.blk k4 (by show ¬ w2.heap.size = w2.heap.size + 1; omega), blk_put (cs := #[.int .i64 0, .int .i64 0]) (blk_put (cs := #[.int .i64 0, .int .i64 0]) k5 0 _ rfl) 1 _ rfl, hFr.blk hal (by show ¬ w4.heap.size = w2.heap.size + 1; omega), trivial⟩, (hbl.mono (by have := S4.out; omega)).trans (hFr.below (by have := S4.out; omega) (fun k hk => by omega)), by simp [hsz], RK.fr (Kd.R_below T4.out.1 hbl) hFr (fun k hk => .inl (by omega))⟩
  rw [hw5]
  have K5 := Lib.hid hk5
  have B5 := Lib.hid (B4.out.trans (hb5.mono (by have := B4.out.size; have := S2.out; omega)))
  have hal := below_alloc (Below.refl w5.heap.size w5) (.cells #[.slice none 0 0, .slice none 0 0] 28)
  clear f0 f1 z0 z1 r0 r1 y0 y1
  obtain ⟨-, -, -, ka, -, -⟩ := Keep.below hal K5.out
  obtain ⟨r2, r3, -, -⟩ := two_of ka
  obtain ⟨f0, f1, -, -⟩ := two_of hk5.2.2.2.2.1
  obtain ⟨r0, r1, -, -⟩ := two_of hk5.2.2.2.1
  have HS5 := Lib.hid hs5
  have hRR := Kd.R_reads' hT5
  have C5 := Lib.hid (And.intro (Kd.R_below C2.out (B24.out.trans hb5)) (And.intro hRR.2.1 (And.intro hRR.2.2 T4.out.2)))
  clear hRR hT5
  clear hw5 hk5 K4 J4 B4 ja ka hs5
  go_wp2_with fail
  clear f0 f1 r0 r1 r2 r3
  have hP0 := Lib.hid (show w.heap.size + 2 ≤ b ∧ b < w2.heap.size ∧ w2.heap.size + 2 ≤ w4.heap.size ∧ w5.heap.size = w4.heap.size + 1 from ⟨S2.out.1, S2.out.2, S4.out, HS5.out⟩)
  have hGL : Keep (genL w.heap.size b w2.heap.size w4.heap.size at_ (.slice Av (e.cons []).length cv) x A cx) w5 := K5.out
  have HGL := Lib.hid hGL
  have hu55 := Tryz.underlying55
  have hW6 : Below w5.heap.size w5 (w5.alloc (.cells #[.slice none 0 0, .slice none 0 0] 28)) := hal
  have hP6 := heap_alloc_new w5 (.cells #[.slice none 0 0, .slice none 0 0] 28)
  have HP6 := Lib.hid (And.intro hW6 hP6)
  clear hal hGL hW6 hP6 hb5 HS5 hne hnf S2 S4
  go_loopg [38] 1 (fun kq v8 wr => ∃ j : Nat, v8 = .int .i64 (j : Int) ∧ RowKit.Hid (kq + j = 1 ∧ Below w5.heap.size w5 wr ∧ ((j = 0 ∧ wr.heap[w5.heap.size]? = some (.cells #[.slice none 0 0, .slice none 0 0] 28 (0, 0))) ∨ (j = 1 ∧ ∃ bu cu, wr.heap[w5.heap.size]? = some (.cells #[.slice (some ⟨bu, 0, none⟩) 1 cu, .slice none 0 0] 28 (0, 0)) ∧ (Kd.raw 5).R 39 wr w5.heap.size (fun k => k ≠ w5.heap.size) (.slice (some ⟨bu, 0, none⟩) 1 cu) [unitC (.slice Av (e.cons []).length cv) (.slice none 0 0)]))))
  case atStart => exact ⟨0, rfl, Lib.hid ⟨rfl, HP6.out.1, .inl ⟨rfl, HP6.out.2⟩⟩⟩
  case round =>
    obtain ⟨j, rfl, HJ⟩ := hrel
    obtain ⟨hkj, hbr, ⟨hj, hp⟩ | ⟨hj, bu, cu, hp, hR⟩⟩ := HJ.out
    · obtain ⟨k1, rfl⟩ : ∃ k1, gk = k1 + 1 := ⟨gk - 1, by omega⟩
      subst hj
      have hk1 := Lib.hid (show k1 = 0 by omega)
      have hF := Bel.blk hbr HGL.out.2.2.1
      obtain ⟨x0, x1, x2, x3, x4⟩ := five_of hF
      have Q := Lib.hid (And.intro hbr (And.intro hp hF))
      clear hkj hbr hp hF HJ
      go_upto_region 11 with (first | ((with_reducible refine gate_dst (N := 9) rfl ?_); refine box_event ?hg (N := 9) ?hd (cs := #[.string (⟨#[]⟩ : ByteArray), .int .i64 0, .int .i64 0, .int .i64 0, .slice none 0 0]) (t := 55) ?hr ?_; (case hd => rfl); (case hg => rfl); (case hr => first | (go_simp; done) | (go_simp; rfl)); intro gb hg w9 hbox hb; have HB9 := Lib.hid (And.intro hg (And.intro hb hbox)); have z0 : w9.cell? ⟨gb, 0, none⟩ = some (.string (⟨#[]⟩ : ByteArray)) := (blk_cell hbox 0).trans rfl; have z1 : w9.cell? ⟨gb, 1, none⟩ = some (.int .i64 0) := (blk_cell hbox 1).trans rfl; have z2 : w9.cell? ⟨gb, 2, none⟩ = some (.int .i64 0) := (blk_cell hbox 2).trans rfl; have z3 : w9.cell? ⟨gb, 3, none⟩ = some (.int .i64 0) := (blk_cell hbox 3).trans rfl; have z4 : w9.cell? ⟨gb, 4, none⟩ = some (.slice none 0 0) := (blk_cell hbox 4).trans rfl; have f0 := blk_frozen hbox 0; have f1 := blk_frozen hbox 1; have f2 := blk_frozen hbox 2; have f3 := blk_frozen hbox 3; have f4 := blk_frozen hbox 4; clear hbox hb hg))
      obtain ⟨w10, hw10, hn10, hb10⟩ : ∃ w10, ((((w9.setCell ⟨gb, 0, none⟩ (.string ⟨#[]⟩)).setCell ⟨gb, 1, none⟩ (.int .i64 at_)).setCell ⟨gb, 2, none⟩ (.int .i64 0)).setCell ⟨gb, 3, none⟩ (.int .i64 0)).setCell ⟨gb, 4, none⟩ (.slice Av (e.cons []).length cv) = w10 ∧ w10.heap[gb]? = some (.cells #[.string ⟨#[]⟩, .int .i64 at_, .int .i64 0, .int .i64 0, .slice Av (e.cons []).length cv] 55 (0, 0)) ∧ Below wr.heap.size wr w10 :=
        ⟨_, rfl, five_set _ _ _ _ _ HB9.out.2.2, HB9.out.2.1.trans ((five_fr _ _ _ _ _).below (by have := HB9.out.2.1.size; omega) (fun k hk => by have := HB9.out.1; omega))⟩
      rw [hw10]
      clear z0 z1 z2 z3 z4 f0 f1 f2 f3 f4 x0 x1 x2 x3 x4
      have hp10 := Bel.blk hb10 Q.out.2.1
      have hbr10 := Q.out.1.trans (hb10.mono Q.out.1.size)
      have hbase : w5.heap.size ≤ w10.heap.size := hbr10.size
      have hplt := blt hp10
      have P10 := Lib.hid (And.intro hp10 (And.intro hbr10 (And.intro hbase hplt)))
      obtain ⟨n0, n1, n2, n3, n4⟩ := five_of hn10
      obtain ⟨p0, p1, -, -⟩ := two_of hp10
      clear hw10 hn10 hb10 hp10 hbr10 hbase hplt HB9 Q
      go_wp2_with (first | ((with_reducible refine gate_builtin (b := .append) (xs := #[.tmp 43, .tmp 53]) rfl ?_); at_builtin; refine Kd.R_append (Kd.raw 5) (w0 := w5) (W := w10) w5.heap.size rfl (.tmp 43) (.tmp 53) 25 39 (.agg #[.string ⟨#[]⟩, .int .i64 0, .int .i64 0, .slice none 0 0, .slice none 0 0]) 80 rfl Tryz.underlying25 info_unit rfl (by decide) (by decide) (.slice none 0 0) [] (unitC (.slice Av (e.cons []).length cv) (.slice none 0 0)) (unitC (.slice Av (e.cons []).length cv) (.slice none 0 0)) (fun k => k ≠ w5.heap.size) (fun _ => False) rfl rfl (unit_M _ _ _ _ _ _ _ _ _) (fun _ hk => hk.elim) (fun k hk => by have := P10.out.2.2.2; omega) (Kd.R_nil _ _ _ _ _) P10.out.2.1 P10.out.2.2.1 (by decide) ?_; intro v1 w11 hR1 hB1 hg1 hat1; obtain ⟨bu, cu, rfl⟩ := raw_one hR1; have hp11 := (hg1.block w5.heap.size P10.out.2.2.2 (Option.some_ne_none _)).trans P10.out.1; have R11 := Lib.hid (And.intro hp11 (And.intro hB1 hR1)); obtain ⟨q0, q1, y0, y1⟩ := two_of hp11; clear hR1 hB1 hg1 hat1 hp11))
      go_roundg k1
      case measure => omega
      case rel => exact ⟨1, rfl, Lib.hid ⟨by have := hk1.out; omega, R11.out.2.1.setCell (p := ⟨w5.heap.size, 0, none⟩) (Nat.le_refl _) _, .inr ⟨rfl, bu, cu, blk_put (cs := #[.slice none 0 0, .slice none 0 0]) R11.out.1 0 _ rfl, Kd.R_far R11.out.2.2 (fun k hk => hk) _⟩⟩⟩
    · subst hj
      have hbr0 : Below w.heap.size w wr := B5.out.trans (hbr.mono B5.out.size)
      have hgl := Keep.below hbr HGL.out
      obtain ⟨v0, v1, v2, v3, v4, -⟩ := unit_cells hR
      have Q := Lib.hid (And.intro hbr0 (And.intro hgl (And.intro hp hR)))
      have QC := Lib.hid (And.intro (Kd.R_below C5.out.1 hbr) (Kd.C_below C5.out.2.2.1 hbr))
      obtain ⟨w7, hw7, hb7⟩ : ∃ w7, wr.alloc (.cells #[.int .i64 1] 3) = w7 ∧ Below wr.heap.size wr w7 := ⟨_, rfl, below_alloc (Below.refl _ _) _⟩
      have Q7 := Lib.hid (And.intro (hbr0.trans (hb7.mono hbr0.size)) (And.intro (Keep.below hb7 hgl) (And.intro (Bel.blk hb7 hp) (And.intro (Kd.R_below hR hb7) (And.intro (Kd.R_below QC.out.1 hb7) (Kd.C_below QC.out.2 hb7))))))
      have HB7 := Lib.hid (hbr.trans (hb7.mono hbr.size))
      obtain ⟨p0, p1, -, -⟩ := two_of Q7.out.2.2.1
      obtain ⟨u0, u1, u2, u3, u4, -⟩ := unit_cells Q7.out.2.2.2.1
      obtain ⟨-, -, -, -, -, ht, -⟩ := Keep.below (below_alloc (Below.refl w7.heap.size w7) (.cells #[.string ⟨#[]⟩, .int .i64 0, .int .i64 0, .slice Av (e.cons []).length cv, .slice none 0 0, .string src, .slice none 0 0, .slice none 0 0, .pointer (some ⟨wr.heap.size, 0, none⟩), .pointer (some ⟨w5.heap.size, 0, none⟩), .slice none 0 0, .slice none 0 0] 61)) Q7.out.2.1
      obtain ⟨t0, t1, t2, t3, t4⟩ := five_of ht
      clear hkj hbr hp hR HJ v0 v1 v2 v3 v4 hgl hbr0 ht hb7 Q QC
      have hmx : Tryz.prog.follows .mixedOrders = true := by kernel_rfl
      go_wp2_with fail
      go_still_tail 9, (by kernel_rfl)
      change wpList _ _ _ _ _ (World.drew _)
      go_wp2_with fail
      obtain ⟨w8, hw8, hC8⟩ : ∃ w8, (w7.alloc (.cells #[.string ⟨#[]⟩, .int .i64 0, .int .i64 0, .slice Av (e.cons []).length cv, .slice none 0 0, .string src, .slice none 0 0, .slice none 0 0, .pointer (some ⟨wr.heap.size, 0, none⟩), .pointer (some ⟨w5.heap.size, 0, none⟩), .slice none 0 0, .slice none 0 0] 61)).drew = w8 ∧ Cd w7 w7.heap.size ⟨src, .slice Av (e.cons []).length cv, .slice none 0 0, .pointer (some ⟨wr.heap.size, 0, none⟩), .pointer (some ⟨w5.heap.size, 0, none⟩)⟩ [] (.slice none 0 0) w8 :=
        ⟨_, rfl, ⟨blk_drew (heap_alloc_new _ _), Kd.R_nil _ _ _ _ _, (below_alloc (Below.refl _ _) _).drew, Nat.le_refl _⟩⟩
      rw [hw8]
      have hcl : (e.cons []).length ≤ 250 := by
        have h1 := foldl_len e.nums []
        have h2 := nums_len e
        have h3 := HO.out.2.1
        show (e.nums.foldl addN []).length ≤ 250
        simp only [List.length_nil] at h1
        omega
      have hRv := Kd.R_reads' Q7.out.2.2.2.2.1
      rw [valsOf_len] at hRv
      have hfc := gfunc_call hC8 HO.out.2.2.2 e HO.out.1 (by have := size_ops e; have := HO.out.2.1; omega) ⟨hcl, Av, cv, rfl, hRv.2.1, hRv.2.2⟩ x C5.out.2.2.2 A cx C5.out.2.1 Q7.out.2.2.2.2.2
      have HFC := Lib.hid hfc
      clear hw8 hC8 hfc hRv p0 p1 u0 u1 u2 u3 u4 t0 t1 t2 t3 t4 hw7
      refine HFC.out.mono ?_
      rintro r w9 ⟨line, rfl, v9, hK9, hA9⟩
      have hb9 := hK9.b0
      obtain ⟨A9, c9, rfl, hc9, hC9⟩ := hK9.slice
      obtain ⟨n9, hn9⟩ : ∃ n, (codeOf line (e.cons []) e).length = n := ⟨_, rfl⟩
      rw [hn9] at hK9 hc9 hC9
      have HN9 := Lib.hid hn9
      have K9 := Lib.hid hK9
      have Q9 := Lib.hid (And.intro (Q7.out.1.trans (hb9.mono Q7.out.1.size)) (And.intro (Keep.below hb9 Q7.out.2.1) (And.intro (Bel.blk hb9 Q7.out.2.2.1) (And.intro (Kd.R_below Q7.out.2.2.2.1 hb9) (Kd.R_below Q7.out.2.2.2.2.1 hb9)))))
      have HB9 := Lib.hid (HB7.out.trans (hb9.mono HB7.out.size))
      have hbu := Lib.hid (Kd.R_lt Q7.out.2.2.2.1 bu (by simp [Value.ownBlock]))
      clear hA9 hb9 hc9 hC9 hn9 hK9
      obtain ⟨p0, p1, -, -⟩ := two_of Q9.out.2.2.1
      obtain ⟨u0, u1, u2, u3, u4, hfz⟩ := unit_cells Q9.out.2.2.2.1
      have y0 := hfz 0
      have y1 := hfz 1
      have y2 := hfz 2
      have y3 := hfz 3
      have y4 := hfz 4
      have g0 := (blk_cell K9.out.bg 0).trans rfl
      have g1 := (blk_cell K9.out.bg 1).trans rfl
      have g2 := (blk_cell K9.out.bg 2).trans rfl
      have g3 := (blk_cell K9.out.bg 3).trans rfl
      have g4 := K9.out.c4
      clear hfz
      go_wp2_with fail
      go_still_tail 7, (by kernel_rfl)
      change wpList _ _ _ _ _ w9.drew
      go_upto_region 17 with (fail)
      have hR10 := unit_put (B := Av) (m := (e.cons []).length) (d := cv) (B' := A9) (m' := n9) (d' := c9) Q9.out.2.2.2.1
      have hF10 := five_fr (w := w9) (G := bu) (.string ⟨#[]⟩) (.int .i64 0) (.int .i64 0) (.slice Av (e.cons []).length cv) (.slice A9 n9 c9)
      obtain ⟨w10, hw10⟩ : ∃ w10, ((((w9.setCell ⟨bu, 0, none⟩ (.string ⟨#[]⟩)).setCell ⟨bu, 1, none⟩ (.int .i64 0)).setCell ⟨bu, 2, none⟩ (.int .i64 0)).setCell ⟨bu, 3, none⟩ (.slice Av (e.cons []).length cv)).setCell ⟨bu, 4, none⟩ (.slice A9 n9 c9) = w10 := ⟨_, rfl⟩
      rw [hw10] at hR10 hF10 ⊢
      have hbp : bu ≠ w5.heap.size := hR10.1 bu (by simp [Value.ownBlock])
      have hble : w5.heap.size ≤ bu := Kd.R_base hR10 bu (by simp [Value.ownBlock])
      have hgl5 := Keep.lt HGL.out
      have hK10 := Keep.fr hF10 (fun p hp (e : p.1 = bu) => by have := hgl5 p hp; omega) Q9.out.2.1
      have hp10 := hF10.blk Q9.out.2.2.1 (Ne.symm hbp)
      have hsz59 : w.heap.size + 2 ≤ w5.heap.size := by have := hP0.out; omega
      have hB10 : Below w.heap.size w w10 := Q9.out.1.trans (hF10.below Q9.out.1.size (fun k hk => by omega))
      have hB510 : Below w5.heap.size w5 w10 := HB9.out.trans (hF10.below HB9.out.size (fun k hk => by omega))
      have hV10 := Kd.R_below C5.out.1 hB510
      have hD10 := R_fr K9.out.row hF10 (fun k hk => by have := hbu.out; omega)
      have hbw : w.heap.size + 2 ≤ bu := by omega
      have P10 := Lib.hid (And.intro hK10 (And.intro hp10 (And.intro hB10 (And.intro hV10 (And.intro hD10 hR10)))))
      have HBW := Lib.hid hbw
      obtain ⟨r0, r1, e0, e1⟩ := two_of hK10.1
      obtain ⟨f0, f1, e2, e3⟩ := two_of hK10.2.1
      obtain ⟨p0, p1, -, -⟩ := two_of hp10
      clear hw10 hK10 hp10 hB10 hV10 hD10 hR10 hbw hF10 hbp hble hgl5 hsz59 hB510 u0 u1 u2 u3 u4 y0 y1 y2 y3 y4 g0 g1 g2 g3 g4
      go_wp2_with fail
      obtain ⟨w11, hw11, hr11, hf11, hF11⟩ := fin_sets (.slice (some ⟨bu, 0, none⟩) 1 cu) (.slice none 0 0) P10.out.1.1 P10.out.1.2.1
      rw [hw11]
      have hlt5 : w.heap.size + 1 < w5.heap.size := by have := hP0.out; omega
      obtain ⟨v0, v1, v2, v3, v4, -⟩ := unit_cells (R_fr P10.out.2.2.2.2.2 hF11 (fun k hk => by omega))
      have hV := Kd.R_reads' (R_fr P10.out.2.2.2.1 hF11 (fun k hk => by omega))
      have hD := Kd.R_reads' (R_fr P10.out.2.2.2.2.1 hF11 (fun k hk => by have := hbu.out; have := HB7.out.size; omega))
      rw [valsOf_len] at hV
      rw [ixs_len] at hD
      have hn := HN9.out
      rw [hn] at hD
      exact bodyPost_ret (results_cc rfl _ _ w.heap.size (w.heap.size + 1) 28 31 _ _ (0, 0) (0, 0) _ _ rfl hr11 Tryz.underlying28 rfl (by kernel_rfl) rfl hf11 Tryz.underlying31 rfl (by kernel_rfl)) rfl
        ⟨line, _, rfl, ⟨bu, cu, Av, cv, A9, c9, rfl, v0, v1, v2, v3, by rw [hn]; exact v4, hV.2.1, by rw [hn]; exact hD.2.1, hV.2.2, by rw [hn]; exact hD.2.2⟩, P10.out.2.2.1.trans (hF11.below P10.out.2.2.1.size (fun k hk => by omega))⟩
end Go.Proofs.YtaoippnipcchmaaGreatDoor.PT
