import Derived.Test.YtlmmhlabacghnaaDoorRM
import Derived.Lib.RuneCountTail
import Derived.Lib.MapLaws
import Derived.Test.YtlmmhlabacghnaaDoorEach
import Derived.Test.YtlmmhlabacghnaaDoorDec
import Derived.RangeFuncWrites
import Derived.RangeFuncCalls
import Derived.Shelf.Abstract
import Derived.OwnWalkIn
import Derived.TacticsInMore
import Derived.LoopNIn
import Derived.LoopIn
import Derived.Test.YtlmmhlabacghnaaDoorBad
import Derived.RangeFuncNested
import Derived.RangeFuncBox
import Derived.RegionIn
import Derived.Test.YtlmmhlabacghnaaDoorWMore
/- Texts rune by rune, in plain numbers: the runes from a place up to a place; what utf8.RuneLen says of one. -/
namespace Go.Proofs.YtlmmhlabacghnaaDoor.RuneMath
set_option linter.unusedVariables false
set_option linter.unusedSimpArgs false

/-- Those of them that begin up to place b. -/
def upto (b : Int) : List R3 → List R3
  | [] => []
  | r :: l => if (r.1 : Int) + 1 ≤ b then r :: upto b l else []
theorem upto_take (b : Int) : ∀ l, upto b l <+: l
  | [] => List.nil_prefix
  | r :: l => by
    simp only [upto]
    split
    · exact (List.prefix_cons_inj r).2 (upto_take b l)
    · exact List.nil_prefix
theorem upto_cons (b : Int) (r : R3) (l : List R3) (h : (r.1 : Int) + 1 ≤ b) : upto b (r :: l) = r :: upto b l := if_pos h
theorem upto_stop (b : Int) (r : R3) (l : List R3) (h : ¬ (r.1 : Int) + 1 ≤ b) : upto b (r :: l) = [] := if_neg h
/-- The runes of s that begin from byte A (counted from 0) up to place b (counted from 1). -/
def spanL (s : ByteArray) (A : Nat) (b : Int) : List R3 := upto b (from_ s A)
theorem spanL_late (s : ByteArray) (A : Nat) (b : Int) (h : b ≤ A) : spanL s A b = [] := by
  unfold spanL
  by_cases hp : A < s.size
  · rw [from_lt s A hp]
    exact upto_stop _ _ _ (by show ¬ (A : Int) + 1 ≤ b; omega)
  · rw [from_ge s A hp]
    rfl

/-- utf8.RuneLen of a number. -/
def runeLenV (c : Nat) : Int := if c ≤ 127 then 1 else if c ≤ 2047 then 2 else if 55296 ≤ c ∧ c ≤ 57343 then -1 else if c ≤ 65535 then 3 else 4
theorem runeLenV_decode (s : ByteArray) (p : Nat) (h : (Utf8.decode s p).1 ≠ 65533) : runeLenV (Utf8.decode s p).1 = ((Utf8.decode s p).2 : Int) := by
  rw [Lib.decode_at] at h ⊢
  have k0 := (s.get! p).toNat_lt
  have k1 := (s.get! (p + 1)).toNat_lt
  have k2 := (s.get! (p + 2)).toNat_lt
  have k3 := (s.get! (p + 3)).toNat_lt
  unfold runeLenV
  rcases Lib.decodeN_shape (s.size - p) (s.get! p).toNat (s.get! (p + 1)).toNat (s.get! (p + 2)).toNat (s.get! (p + 3)).toNat with ⟨c, e⟩ | ⟨c1, c2, c3, cv, e⟩ | ⟨c1, c2, c3, c4, cv, cs, e⟩ | ⟨c1, c2, c3, c4, c5, cv, cw, e⟩ | e
  all_goals (rw [e] at h ⊢; dsimp only at h ⊢)
  all_goals (try (exact absurd rfl h))
  all_goals (repeat' split)
  all_goals omega
theorem decode_top (s : ByteArray) (p : Nat) : (Utf8.decode s p).1 ≤ 1114111 := by
  rw [Lib.decode_at]
  have := (s.get! p).toNat_lt
  unfold Lib.decodeN
  repeat' split
  all_goals (dsimp only; omega)
theorem from_bound (s : ByteArray) : ∀ (f p : Nat) (r : R3), r ∈ scan s f p → r.1 < s.size ∧ p ≤ r.1 ∧ r.2 = ((Utf8.decode s r.1).2, (Utf8.decode s r.1).1)
  | 0, p, r, h => by cases h
  | f + 1, p, r, h => by
    simp only [scan] at h
    by_cases hp : p < s.size
    · rw [if_pos hp] at h
      rcases List.mem_cons.1 h with rfl | h
      · exact ⟨hp, Nat.le_refl _, rfl⟩
      · have := from_bound s f _ r h
        exact ⟨this.1, by omega, this.2.2⟩
    · rw [if_neg hp] at h
      cases h
theorem spanL_len (s : ByteArray) (A : Nat) (b : Int) : (spanL s A b).length ≤ s.size := by
  refine Nat.le_trans (upto_take b (from_ s A)).length_le ?_
  have : ∀ f p, (scan s f p).length ≤ f := by
    intro f
    induction f with
    | zero => intro p; simp [scan]
    | succ f ih =>
      intro p
      simp only [scan]
      split
      · simp only [List.length_cons]; have := ih (p + (Utf8.decode s p).2); omega
      · simp
  exact Nat.le_trans (this _ _) (by omega)
end Go.Proofs.YtlmmhlabacghnaaDoor.RuneMath
/- utflib.span: an iterator over the runes of a text from a place on, up to a place: its contract. -/
namespace Go.Proofs.YtlmmhlabacghnaaDoor.PR
open Go.RowKit Go.Shelf Go.Proofs.YtlmmhlabacghnaaDoorW.PrintWords Go.Proofs.YtlmmhlabacghnaaDoor.RuneMath
set_option linter.unusedVariables false
set_option linter.unusedSimpArgs false
attribute [local go_sem] Oper.semAt_some

set_option maxHeartbeats 1000000 in
set_option maxRecDepth 100000 in
theorem span_call (s : ByteArray) (a b : Int) (w : World) :
    Calls Tryd.prog 66 #[.string s, .int .i64 a, .int .i64 b] w fun e w' => e = .returned (.func (.func 70) #[] #[.pointer (some ⟨w.heap.size + 1, 0, none⟩), .pointer (some ⟨w.heap.size + 1 + 1, 0, none⟩), .pointer (some ⟨w.heap.size, 0, none⟩)]) ∧ w' = ((w.alloc (.cells #[.string s] 9)).alloc (.cells #[.int .i64 a] 3)).alloc (.cells #[.int .i64 b] 3) := by
  go_enter Tryd.func66, Tryd.ntmps66
  go_wp2
  go_ret
  exact ⟨rfl, rfl⟩

set_option maxHeartbeats 1000000 in
set_option maxRecDepth 100000 in
theorem runeLen_call (c : Nat) (hc : c ≤ 1114111) (w : World) : Calls Tryd.prog 71 #[.int .i32 c] w fun e w' => e = .returned (.int .i64 (runeLenV c)) ∧ w' = w := by
  unfold runeLenV
  have h0 : decide ((c : Int) < 0) = false := decide_eq_false (by omega)
  by_cases h1 : c ≤ 127
  · rw [if_pos h1]
    have d1 : decide ((c : Int) ≤ 127) = true := decide_eq_true (by omega)
    clear h1
    go_enter Tryd.func71, Tryd.ntmps71
    go_wp2
    go_ret
    exact ⟨rfl, rfl⟩
  · rw [if_neg h1]
    have d1 : decide ((c : Int) ≤ 127) = false := decide_eq_false (by omega)
    by_cases h2 : c ≤ 2047
    · rw [if_pos h2]
      have d2 : decide ((c : Int) ≤ 2047) = true := decide_eq_true (by omega)
      clear h1 h2
      go_enter Tryd.func71, Tryd.ntmps71
      go_wp2
      go_ret
      exact ⟨rfl, rfl⟩
    · rw [if_neg h2]
      have d2 : decide ((c : Int) ≤ 2047) = false := decide_eq_false (by omega)
      by_cases h3 : 55296 ≤ c ∧ c ≤ 57343
      · rw [if_pos h3]
        have d3 : decide (55296 ≤ (c : Int)) = true := decide_eq_true (by omega)
        have d4 : decide ((c : Int) ≤ 57343) = true := decide_eq_true (by omega)
        clear h1 h2 h3
        go_enter Tryd.func71, Tryd.ntmps71
        go_wp2
        go_ret
        exact ⟨rfl, rfl⟩
      · rw [if_neg h3]
        by_cases h5 : c ≤ 65535
        · rw [if_pos h5]
          have d5 : decide ((c : Int) ≤ 65535) = true := decide_eq_true (by omega)
          by_cases h4 : 55296 ≤ c
          · have d3 : decide (55296 ≤ (c : Int)) = true := decide_eq_true (by omega)
            have d4 : decide ((c : Int) ≤ 57343) = false := decide_eq_false (by omega)
            clear h1 h2 h3 h4 h5
            go_enter Tryd.func71, Tryd.ntmps71
            go_wp2
            go_ret
            exact ⟨rfl, rfl⟩
          · have d3 : decide (55296 ≤ (c : Int)) = false := decide_eq_false (by omega)
            clear h1 h2 h3 h4 h5
            go_enter Tryd.func71, Tryd.ntmps71
            go_wp2
            go_ret
            exact ⟨rfl, rfl⟩
        · rw [if_neg h5]
          have d5 : decide ((c : Int) ≤ 65535) = false := decide_eq_false (by omega)
          have d6 : decide ((c : Int) ≤ 1114111) = true := decide_eq_true (by omega)
          have d3 : decide (55296 ≤ (c : Int)) = true := decide_eq_true (by omega)
          have d4 : decide ((c : Int) ≤ 57343) = false := decide_eq_false (by omega)
          clear h1 h2 h3 h5
          go_enter Tryd.func71, Tryd.ntmps71
          go_wp2
          go_ret
          exact ⟨rfl, rfl⟩
end Go.Proofs.YtlmmhlabacghnaaDoor.PR
/- utflib.span's closure: every rune from a place on, up to a place, told to whoever ranges over it. -/
namespace Go.Proofs.YtlmmhlabacghnaaDoor.PR
open Go.RowKit Go.Shelf Go.Proofs.YtlmmhlabacghnaaDoorW.PrintWords Go.Proofs.YtlmmhlabacghnaaDoor.RuneMath
set_option linter.unusedVariables false
set_option linter.unusedSimpArgs false
attribute [local go_sem] Oper.semAt_some

/-- What a round keeps: the walks under way, and below B all but the blocks in c. -/
structure Kp (c : Nat → Prop) (B : Nat) (W W' : World) : Prop where
  walks : KeepsWalks W W'
  blk : ∀ k, k < B → ¬ c k → W'.heap[k]? = W.heap[k]?
theorem Kp.trans {c : Nat → Prop} {B : Nat} {X Y Z : World} (h : Kp c B X Y) (k : Kp c B Y Z) : Kp c B X Z :=
  ⟨h.walks.trans k.walks, fun i hi hc => (k.blk i hi hc).trans (h.blk i hi hc)⟩
theorem Kp.put {c : Nat → Prop} {B : Nat} {w : World} (hn : B ≤ w.heap.size) (W : World) (l : Nat) (o o' : Obj) (hl : w.heap.size ≤ l) (h : W.heap[l]? = some o) (_ : o.isCells = false) (hw : o.isWalk = false) : Kp c B W (W.putObj l o') :=
  ⟨KeepsWalks.putObj _ h hw, fun k hk _ => World.putObj_heap_other (by omega)⟩
theorem tab_same {c : Nat → Prop} {B : Nat} {w w' : World} (h : RowKit.Hid (Lib.Utf8Tabs 0 1 w)) (hB : w.heap.size ≤ B) (h0 : ¬ c 0) (h1 : ¬ c 1) (hk : ∀ k, k < B → ¬ c k → w'.heap[k]? = w.heap[k]?) : RowKit.Hid (Lib.Utf8Tabs 0 1 w') := by
  obtain ⟨t1, t2⟩ := h.out
  have key : ∀ {a : Addr} {v : Value}, ¬ c a.block → w.cell? a = some v → w'.cell? a = some v := fun hc hv => (World.cell?_of_block (hk _ (Nat.lt_of_lt_of_le (World.block_lt_of_cell? w _ hv) hB) hc)).trans hv
  exact Lib.hid ⟨fun c hc => key h0 (t1 c hc), fun i hi => ⟨key h1 (t2 i hi).1, key h1 (t2 i hi).2⟩⟩
theorem grow_of_below {w w' : World} (h : Below w.heap.size w w') : w.grownBy w' none := ⟨h.os, h.tape, h.output, h.size, fun k hk _ => h.block k hk⟩

/-- One step of an iterator, the world behind it under a name of its own. -/
theorem iter_at (w : World) (it : Nat) (s : ByteArray) (pos : Nat) (hit : w.heap[it]? = some (.stringIter s pos)) (hp : pos < s.size) :
    ∃ w1, (∀ ty, (Instr.next (.pointer (some ⟨it, 0, none⟩)) true ty).run Tryd.prog w = .ok (.tuple #[.bool true, .int .i64 pos, .int .i32 (Utf8.decode s pos).1]) w1) ∧
      w1.heap[it]? = some (.stringIter s (pos + (Utf8.decode s pos).2)) ∧ (∀ k, k ≠ it → w1.heap[k]? = w.heap[k]?) ∧ w.grownBy w1 (some it) ∧ w1.heap.size = w.heap.size :=
  ⟨_, fun ty => Lib.run_next_any_at w it s pos ty hit hp, Lib.iterAt_heap w it s pos _ hit, fun k hk => Lib.iterAt_other w it k s _ hk,
    ⟨rfl, rfl, rfl, Nat.le_of_eq (Lib.iterAt_size w it s _).symm, fun k _ hk => Lib.iterAt_other w it k s _ (fun e => hk (by rw [e]))⟩, Lib.iterAt_size w it s _⟩

/-- What the closure's loop holds: the iterator, what was told, what is still to tell. -/
structure SpanAt (s : ByteArray) (A : Nat) (b : Int) (w W : World) (J : List R3 → World → Prop) (c : Nat → Prop) (pos : Nat) (pre : List R3) (wr : World) : Prop where
  it : wr.heap[W.heap.size]? = some (.stringIter (s.extract A s.size) pos)
  inv : J pre wr
  blk : ∀ k, k < w.heap.size → ¬ c k → wr.heap[k]? = w.heap[k]?
  size : W.heap.size + 1 ≤ wr.heap.size
  rest : pre ++ upto b (from_ s (A + pos)) = spanL s A b
  le : A + pos ≤ s.size

def encR (r : R3) : Array Value := #[.agg #[.int .i64 ((r.1 : Int) + 1), .int .i64 r.2.1, .int .i64 r.2.2]]

set_option maxHeartbeats 2000000 in
set_option maxRecDepth 100000 in
theorem span1_stops (n : Nat) (s : ByteArray) (hs : s.size ≤ 4611686018427387904) (a b : Int) (ha : 1 ≤ a) (hb : b ≤ s.size) (c : Nat → Prop) (w : World) (pa pb ps : Nat)
    (ca : w.cell? ⟨pa, 0, none⟩ = some (.int .i64 a)) (cb : w.cell? ⟨pb, 0, none⟩ = some (.int .i64 b)) (cs : w.cell? ⟨ps, 0, none⟩ = some (.string s))
    (na : ¬ c pa) (nb : ¬ c pb) (ns : ¬ c ps) (n0 : ¬ c 0) (n1 : ¬ c 1) (HT_ : RowKit.Hid (Lib.Utf8Tabs 0 1 w)) :
    SeqStopsK Fence.wide n Tryd.prog 70 #[.pointer (some ⟨pa, 0, none⟩), .pointer (some ⟨pb, 0, none⟩), .pointer (some ⟨ps, 0, none⟩)] encR (Kp c w.heap.size)
      (fun ys => ys = spanL s (a - 1).toNat b) (fun pre => pre <+: spanL s (a - 1).toNat b) s.size w := by
  intro l J Jx W hW hJ hJx hY h0
  obtain ⟨A, rfl⟩ : ∃ A : Nat, a = (A : Int) + 1 := ⟨(a - 1).toNat, by omega⟩
  rw [show ((A : Int) + 1 - 1).toNat = A by omega]
  have la := World.block_lt_of_cell? w _ ca
  have lb := World.block_lt_of_cell? w _ cb
  have ls := World.block_lt_of_cell? w _ cs
  have ca0 := (World.cell?_of_block (hW.block pa la)).trans ca
  have cb0 := (World.cell?_of_block (hW.block pb lb)).trans cb
  have cs0 := (World.cell?_of_block (hW.block ps ls)).trans cs
  have HY := Lib.hid hY
  have HJ := Lib.hid hJ
  have HJX := Lib.hid hJx
  have H0 := Lib.hid h0
  have HW := Lib.hid hW
  have CC := Lib.hid (And.intro ca (And.intro cb cs))
  have NN := Lib.hid (And.intro na (And.intro nb (And.intro ns (And.intro n0 n1))))
  clear hY hJ hJx h0 hW ca cb cs na nb ns n0 n1
  refine callsIn_of_wp Tryd.func70 rfl trivial ?_ rfl
  simp only [Tryd.ntmps70, List.size_toArray, List.length_cons, List.length_nil, Nat.reduceAdd, Nat.reduceSub, Array.replicate_succ, Array.replicate_zero, List.push_toArray, List.append_toArray, List.nil_append, List.cons_append]
  by_cases hab : b < (A : Int) + 1
  · have d0 : decide (b < (A : Int) + 1) = true := decide_eq_true hab
    gi_wp2
    refine bodyPost_ret (results_none rfl _ _ _) rfl ?_
    exact ⟨⟨_, rfl⟩, .inl (by rw [spanL_late s A b (by omega)]; exact H0.out)⟩
  · have d0 : decide (b < (A : Int) + 1) = false := decide_eq_false hab
    have d1 : decide (0 ≤ (A : Int)) = true := decide_eq_true (by omega)
    have d2 : decide ((A : Int) ≤ s.size) = true := decide_eq_true (by omega)
    have hsA : (s.extract A s.size).size = s.size - A := by simp
    gi_wp2
    gi_loopw [5, 6, 7] (fun v5 v6 v7 wr => ∃ (pos : Nat) (pre : List R3), SpanAt s A b w W J c pos pre wr) (fun v5 v6 v7 wr => s.size - wr.iterPos W.heap.size)
    case atStart =>
      have hW := HW.out
      have hit := World.iter_heap W (s.extract A s.size) 0
      refine ⟨0, [], ⟨hit, ?_, fun k hk _ => ?_, ?_, rfl, by omega⟩⟩
      · exact HJ.out _ _ _ none H0.out (World.grownBy_alloc W _ none) (fun r e => by cases e)
      · exact (Below.heap_alloc _ _ _ (Nat.lt_of_lt_of_le hk hW.size)).trans (hW.block k hk)
      · simp [World.iter]
    case round =>
      obtain ⟨pos, pre, H⟩ := hrel
      have hWs := HW.out.size
      have hle := H.le
      have hpos0 := iterPos_of' H.it
      obtain ⟨na, nb, ns, n0, n1⟩ := NN.out
      obtain ⟨xa, xb, xs⟩ := CC.out
      by_cases hp : pos < (s.extract A s.size).size
      · obtain ⟨w1, hnx, g1, g2, g3, g4⟩ := iter_at wr W.heap.size _ pos H.it hp
        have hdec := Lib.tail_decode s A pos
        rw [hdec] at hnx g1
        have hpA : A + pos < s.size := by omega
        have hwp := width_pos s (A + pos) hpA
        have hwf := width_fits s (A + pos) hpA
        have hdt := decode_top s (A + pos)
        have hin1 : J pre w1 := HJ.out _ _ _ _ H.inv g3 (fun r e => by cases e; exact ⟨Nat.le_refl _, _, H.it, rfl⟩)
        have hb1 : ∀ k, k < w.heap.size → ¬ c k → w1.heap[k]? = w.heap[k]? := fun k hk hc => (g2 k (by omega)).trans (H.blk k hk hc)
        have hs1 : W.heap.size + 1 ≤ w1.heap.size := by have := H.size; omega
        have hfl := from_lt s (A + pos) hpA
        have hrest := H.rest
        rw [hfl] at hrest
        have ca1 := (World.cell?_of_block (hb1 pa la na)).trans xa
        have cb1 := (World.cell?_of_block (hb1 pb lb nb)).trans xb
        have cs1 := (World.cell?_of_block (hb1 ps ls ns)).trans xs
        have HT1 := tab_same HT_ (Nat.le_refl _) n0 n1 hb1
        generalize hcd : (Utf8.decode s (A + pos)).1 = cd at hnx hdt hrest
        have P1 := Lib.hid (And.intro g1 (And.intro hin1 (And.intro hb1 (And.intro hs1 (And.intro hrest (And.intro hpos0 hle))))))
        clear g1 g2 g3 g4 hin1 hb1 hs1 hrest hfl H hdec hpos0 xa xb xs na nb ns n0 n1 hle
        by_cases hbad : cd = 65533
        · subst hbad
          gi_wp2
          refine ⟨trivial, (fun h => by cases h), (callsIn_wide.2 (runeLen_call 65533 (by omega) w1)).mono ?_⟩
          rintro e w' ⟨rfl, rfl⟩
          have c1 : decide (0 ≤ (A : Int) + pos) = true := decide_eq_true (by omega)
          have c2 : decide ((A : Int) + pos ≤ s.size) = true := decide_eq_true (by omega)
          gi_wp2
          refine ⟨trivial, (fun h => by cases h), (callsIn_wide.2 (utf8_DecodeRuneInString.calls _ _ _ _ rfl HT1)).mono ?_⟩
          rintro e w2 ⟨rfl, hw2⟩
          have hsz : ((Lib.decodeGo (s.extract (A + pos) s.size)).2 : Int) = ((Utf8.decode s (A + pos)).2 : Int) := by
            have ht := Lib.tail_decode s (A + pos) 0
            rw [Nat.add_zero] at ht
            unfold Lib.decodeGo
            rw [if_neg (by simp; omega), ht]
          have hin2 : J pre w2 := HJ.out _ _ _ none P1.out.2.1 (grow_of_below hw2) (fun r e => by cases e)
          have ca2 := cell_kept hw2 ca1
          have cb2 := cell_kept hw2 cb1
          have Q2 := Lib.hid hw2
          clear hw2
          rw [hsz]
          by_cases hI : b < (A : Int) + 1 + pos
          · have dI : decide (b < (A : Int) + 1 + pos) = true := decide_eq_true hI
            gi_wp2
            refine ⟨(fun f h => by cases h), ?_⟩
            gi_wp2
            obtain ⟨g1, hin1, hb1, hs1, hrest, hpos0, hle⟩ := P1.out
            rw [upto_stop _ _ _ (by show ¬ ((A + pos : Nat) : Int) + 1 ≤ b; omega), List.append_nil] at hrest
            refine bodyPost_ret (results_none rfl _ _ _) rfl ?_
            exact ⟨⟨_, rfl⟩, .inl ⟨_, hrest, hin2⟩⟩
          · have dI : decide (b < (A : Int) + 1 + pos) = false := decide_eq_false hI
            obtain ⟨g1, hin1, hb1, hs1, hrest, hpos0, hle⟩ := P1.out
            rw [upto_cons _ _ _ (by show ((A + pos : Nat) : Int) + 1 ≤ b; omega)] at hrest
            have hlen : pre.length < s.size := by
              have := spanL_len s A b
              rw [← hrest] at this
              simp at this
              omega
            have he : encR (A + pos, (Utf8.decode s (A + pos)).2, 65533) = #[.agg #[.int .i64 ((A : Int) + 1 + pos), .int .i64 (((Utf8.decode s (A + pos)).2 : Int)), .int .i64 65533]] := by
              unfold encR
              rw [ show ((A + pos : Nat) : Int) + 1 = (A : Int) + 1 + pos by omega]
              try rfl
            obtain ⟨fn, tmps, assign, body, hy, hR⟩ := HY.out pre (A + pos, (Utf8.decode s (A + pos)).2, 65533) w2 hin2 hlen
            rw [he] at hy
            have P2 := Lib.hid (And.intro hrest (And.intro g1 (And.intro hb1 (And.intro hs1 (And.intro hpos0 hle)))))
            clear hrest g1 hin1 hb1 hs1 hpos0 hle he hlen P1
            gi_wp2
            refine ⟨(fun h => by cases h), hR.mono ?_⟩
            rintro e W3 (⟨rfl, hJ3, hk3⟩ | ⟨rfl, hJx3⟩)
            · obtain ⟨hrest, g1, hb1, hs1, hpos0, hle⟩ := P2.out
              have hw2 := Q2.out
              have hit3 : W3.heap[W.heap.size]? = some (.stringIter (s.extract A s.size) (pos + (Utf8.decode s (A + pos)).2)) := hk3.walks.same _ _ ((hw2.block _ (by omega)).trans g1) rfl
              have hs3 : W.heap.size + 1 ≤ W3.heap.size := by have h1 := hk3.walks.size; have h2 := hw2.size; omega
              have hb3 : ∀ k, k < w.heap.size → ¬ c k → W3.heap[k]? = w.heap[k]? := fun k hk hc => (hk3.blk k hk hc).trans ((hw2.block k (by omega)).trans (hb1 k hk hc))
              have P3 := Lib.hid (And.intro hit3 (And.intro hJ3 (And.intro hb3 (And.intro hs3 (And.intro hrest (And.intro hpos0 hle))))))
              clear hit3 hJ3 hb3 hs3 hrest hpos0 hle hk3 hb1 hs1 g1 hw2
              gi_wp2
              obtain ⟨hit3, hJ3, hb3, hs3, hrest, hpos0, hle⟩ := P3.out
              go_roundw
              case rel => exact ⟨pos + (Utf8.decode s (A + pos)).2, _, ⟨hit3, hJ3, hb3, hs3, by rw [← hrest, ← Nat.add_assoc]; simp, by omega⟩⟩
              case measure =>
                rw [iterPos_of' hit3, hpos0]
                omega
            · gi_wp2
              refine bodyPost_ret (results_none rfl _ _ _) rfl ?_
              exact ⟨⟨_, rfl⟩, .inr ⟨_, ⟨_, by rw [← P2.out.1]; simp; rfl⟩, hJx3⟩⟩
        · have dbad : decide ((cd : Int) = 65533) = false := decide_eq_false (by omega)
          gi_wp2
          refine ⟨trivial, (fun h => by cases h), (callsIn_wide.2 (runeLen_call cd hdt w1)).mono ?_⟩
          rintro e w' ⟨rfl, rfl⟩
          have Q2 := Lib.hid (Below.refl w'.heap.size w')
          have hsz : runeLenV cd = ((Utf8.decode s (A + pos)).2 : Int) := by
            rw [← hcd]
            exact runeLenV_decode s (A + pos) (by rw [hcd]; exact hbad)
          have hin2 : J pre w' := P1.out.2.1
          rw [hsz]
          by_cases hI : b < (A : Int) + 1 + pos
          · have dI : decide (b < (A : Int) + 1 + pos) = true := decide_eq_true hI
            gi_wp2
            refine ⟨(fun f h => by cases h), ?_⟩
            gi_wp2
            obtain ⟨g1, hin1, hb1, hs1, hrest, hpos0, hle⟩ := P1.out
            rw [upto_stop _ _ _ (by show ¬ ((A + pos : Nat) : Int) + 1 ≤ b; omega), List.append_nil] at hrest
            refine bodyPost_ret (results_none rfl _ _ _) rfl ?_
            exact ⟨⟨_, rfl⟩, .inl ⟨_, hrest, hin2⟩⟩
          · have dI : decide (b < (A : Int) + 1 + pos) = false := decide_eq_false hI
            obtain ⟨g1, hin1, hb1, hs1, hrest, hpos0, hle⟩ := P1.out
            rw [upto_cons _ _ _ (by show ((A + pos : Nat) : Int) + 1 ≤ b; omega)] at hrest
            have hlen : pre.length < s.size := by
              have := spanL_len s A b
              rw [← hrest] at this
              simp at this
              omega
            have he : encR (A + pos, (Utf8.decode s (A + pos)).2, cd) = #[.agg #[.int .i64 ((A : Int) + 1 + pos), .int .i64 (((Utf8.decode s (A + pos)).2 : Int)), .int .i64 (cd : Int)]] := by
              unfold encR
              rw [ show ((A + pos : Nat) : Int) + 1 = (A : Int) + 1 + pos by omega]
              try rfl
            obtain ⟨fn, tmps, assign, body, hy, hR⟩ := HY.out pre (A + pos, (Utf8.decode s (A + pos)).2, cd) w' hin2 hlen
            rw [he] at hy
            have P2 := Lib.hid (And.intro hrest (And.intro g1 (And.intro hb1 (And.intro hs1 (And.intro hpos0 hle)))))
            clear hrest g1 hin1 hb1 hs1 hpos0 hle he hlen P1
            gi_wp2
            refine ⟨(fun h => by cases h), hR.mono ?_⟩
            rintro e W3 (⟨rfl, hJ3, hk3⟩ | ⟨rfl, hJx3⟩)
            · obtain ⟨hrest, g1, hb1, hs1, hpos0, hle⟩ := P2.out
              have hw2 := Q2.out
              have hit3 : W3.heap[W.heap.size]? = some (.stringIter (s.extract A s.size) (pos + (Utf8.decode s (A + pos)).2)) := hk3.walks.same _ _ ((hw2.block _ (by omega)).trans g1) rfl
              have hs3 : W.heap.size + 1 ≤ W3.heap.size := by have h1 := hk3.walks.size; have h2 := hw2.size; omega
              have hb3 : ∀ k, k < w.heap.size → ¬ c k → W3.heap[k]? = w.heap[k]? := fun k hk hc => (hk3.blk k hk hc).trans ((hw2.block k (by omega)).trans (hb1 k hk hc))
              have P3 := Lib.hid (And.intro hit3 (And.intro hJ3 (And.intro hb3 (And.intro hs3 (And.intro hrest (And.intro hpos0 hle))))))
              clear hit3 hJ3 hb3 hs3 hrest hpos0 hle hk3 hb1 hs1 g1 hw2
              gi_wp2
              obtain ⟨hit3, hJ3, hb3, hs3, hrest, hpos0, hle⟩ := P3.out
              go_roundw
              case rel => exact ⟨pos + (Utf8.decode s (A + pos)).2, _, ⟨hit3, hJ3, hb3, hs3, by rw [← hrest, ← Nat.add_assoc]; simp, by omega⟩⟩
              case measure =>
                rw [iterPos_of' hit3, hpos0]
                omega
            · gi_wp2
              refine bodyPost_ret (results_none rfl _ _ _) rfl ?_
              exact ⟨⟨_, rfl⟩, .inr ⟨_, ⟨_, by rw [← P2.out.1]; simp; rfl⟩, hJx3⟩⟩
      · have hnx : ∀ ty, (Instr.next (.pointer (some ⟨W.heap.size, 0, none⟩)) true ty).run Tryd.prog wr = .ok (.tuple #[.bool false]) wr := fun ty => Lib.run_next_end_at wr W.heap.size _ pos ty H.it hp
        have hrest := H.rest
        rw [from_ge s (A + pos) (by omega)] at hrest
        have P1 := Lib.hid (And.intro hrest H.inv)
        clear H hrest
        gi_wp2
        go_end0
        obtain ⟨hrest, hin⟩ := P1.out
        refine ⟨⟨_, rfl⟩, .inl ?_⟩
        rw [← hrest]
        simpa [upto] using hin
end Go.Proofs.YtlmmhlabacghnaaDoor.PR
/- utflib.Len: how many runes begin from a byte to a byte, or where the first invalid byte is: its walk over span's closure. -/
namespace Go.Proofs.YtlmmhlabacghnaaDoor.PR
open Go.RowKit Go.Shelf Go.Proofs.YtlmmhlabacghnaaDoorW.PrintWords Go.Proofs.YtlmmhlabacghnaaDoor.RuneMath
set_option linter.unusedVariables false
set_option linter.unusedSimpArgs false
attribute [local go_sem] Oper.semAt_some

/-- The place that a number means in a text of n bytes. -/
def meansV (i n : Int) : Int := if 0 ≤ i then i else if -n ≤ i then n + 1 + i else 0
set_option maxHeartbeats 1000000 in
set_option maxRecDepth 100000 in
theorem means_call (i : Int) (n : Nat) (hn : n ≤ 4611686018427387904) (w : World) : Calls Tryd.prog 59 #[.int .i64 i, .int .i64 n] w fun e w' => e = .returned (.int .i64 (meansV i n)) ∧ w' = w := by
  unfold meansV
  by_cases h1 : 0 ≤ i
  · rw [if_pos h1]
    have d1 : decide (0 ≤ i) = true := decide_eq_true h1
    clear h1
    go_enter Tryd.func59, Tryd.ntmps59
    go_wp2
    go_ret
    exact ⟨rfl, rfl⟩
  · rw [if_neg h1]
    have d1 : decide (0 ≤ i) = false := decide_eq_false h1
    by_cases h2 : -(n : Int) ≤ i
    · rw [if_pos h2]
      have d2 : decide (-(n : Int) ≤ i) = true := decide_eq_true h2
      go_enter Tryd.func59, Tryd.ntmps59
      go_wp2
      go_ret
      exact ⟨rfl, rfl⟩
    · rw [if_neg h2]
      have d2 : decide (-(n : Int) ≤ i) = false := decide_eq_false h2
      go_enter Tryd.func59, Tryd.ntmps59
      go_wp2
      go_ret
      exact ⟨rfl, rfl⟩

set_option maxHeartbeats 1000000 in
set_option maxRecDepth 100000 in
theorem uinv_call (r : R3) (w : World) : Calls Tryd.prog 64 #[.agg #[.int .i64 ((r.1 : Int) + 1), .int .i64 r.2.1, .int .i64 r.2.2]] w fun e w' => e = .returned (.bool (inv r)) ∧ w' = w.alloc (.cells #[.int .i64 ((r.1 : Int) + 1), .int .i64 r.2.1, .int .i64 r.2.2] 28) := by
  obtain ⟨b, hb⟩ : ∃ b, inv r = b := ⟨_, rfl⟩
  rw [hb]
  unfold inv at hb
  rcases Nat.decEq r.2.2 65533 with h1 | h1
  · have g1 : ((r.2.2 : Int) == 65533) = false := beq_eq_false_iff_ne.2 (by omega)
    rw [beq_eq_false_iff_ne.2 h1] at hb
    obtain rfl : false = b := hb
    clear h1
    go_enter Tryd.func64, Tryd.ntmps64
    go_wp2
    go_ret
    exact ⟨rfl, rfl⟩
  · have g1 : ((r.2.2 : Int) == 65533) = true := beq_iff_eq.2 (by omega)
    rw [beq_iff_eq.2 h1] at hb
    rcases Nat.decEq r.2.1 1 with h2 | h2
    · have g2 : ((r.2.1 : Int) == 1) = false := beq_eq_false_iff_ne.2 (by omega)
      rw [beq_eq_false_iff_ne.2 h2] at hb
      obtain rfl : false = b := hb
      clear h1 h2
      go_enter Tryd.func64, Tryd.ntmps64
      go_wp2
      go_ret
      exact ⟨rfl, rfl⟩
    · have g2 : ((r.2.1 : Int) == 1) = true := beq_iff_eq.2 (by omega)
      rw [beq_iff_eq.2 h2] at hb
      obtain rfl : true = b := hb
      clear h1 h2
      go_enter Tryd.func64, Tryd.ntmps64
      go_wp2
      go_ret
      exact ⟨rfl, rfl⟩

/-- The place of the first invalid byte; 0: there is none. -/
def badAt : List R3 → Int
  | [] => 0
  | r :: l => if inv r = true then (r.1 : Int) + 1 else badAt l
theorem badAt_none : ∀ l : List R3, (∀ r ∈ l, inv r = false) → badAt l = 0
  | [], _ => rfl
  | r :: l, h => by
    simp only [badAt]
    rw [if_neg (by rw [h r List.mem_cons_self]; decide)]
    exact badAt_none l fun x hx => h x (List.mem_cons_of_mem _ hx)
theorem badAt_first : ∀ (pre : List R3) (r : R3) (l : List R3), (∀ x ∈ pre, inv x = false) → inv r = true → badAt (pre ++ r :: l) = (r.1 : Int) + 1
  | [], r, l, _, h => by
    show (if inv r = true then _ else _) = _
    rw [if_pos h]
  | x :: pre, r, l, hp, h => by
    show (if inv x = true then _ else badAt (pre ++ r :: l)) = _
    rw [if_neg (by rw [hp x List.mem_cons_self]; decide)]
    exact badAt_first pre r l (fun y hy => hp y (List.mem_cons_of_mem _ hy)) h
def lenL (l : List R3) : Int × Int × Int := if badAt l = 0 then (l.length, 0, 0) else (0, badAt l, 0)
def lenV (s : ByteArray) (a b : Int) : Int × Int × Int := if a < 1 ∨ (s.size : Int) + 1 < a ∨ (s.size : Int) < b then (0, 0, 1) else lenL (spanL s (a - 1).toNat b)
def utflib_Len.f (s : ByteArray) (i j : Int) : Option (Int × Int × Int) := if s.size ≤ 4611686018427387904 then some (lenV s (meansV i s.size) (meansV j s.size)) else none

/-- The caller's own cells: those that a round may write. -/
def cells4 (B : Nat) (k : Nat) : Prop := B ≤ k ∧ k < B + 4
theorem Kp.alloc {c : Nat → Prop} {B : Nat} (W : World) (o : Obj) (hB : B ≤ W.heap.size) : Kp c B W (W.alloc o) :=
  ⟨KeepsWalks.alloc W o, fun k hk _ => Below.heap_alloc _ _ _ (by omega)⟩
theorem Kp.set {c : Nat → Prop} {B : Nat} (W : World) (k : Nat) (v : Value) (hc : c k) : Kp c B W (W.setCell ⟨k, 0, none⟩ v) :=
  ⟨KeepsWalks.setCell W _ v, fun i hi hn => Below.heap_setCell _ _ _ _ (by rintro rfl; exact hn hc)⟩
theorem Kp.refl (c : Nat → Prop) (B : Nat) (W : World) : Kp c B W W := ⟨KeepsWalks.refl _, fun _ _ _ => rfl⟩

theorem grow1 {w W : World} (h : Below w.heap.size w W) (o : Obj) : Below w.heap.size w (W.alloc o) := h.alloc h.size o
theorem push1 (w : World) (o : Obj) : ∃ W, w.alloc o = W ∧ W.heap.size = w.heap.size + 1 ∧ W.heap[w.heap.size]? = some o ∧ (∀ (k : Nat) (x : Obj), w.heap[k]? = some x → W.heap[k]? = some x) ∧ Below w.heap.size w W :=
  ⟨_, rfl, World.size_alloc _ _, World.alloc_heap_new _ _, fun k x h => (Below.heap_alloc w o k (Array.getElem?_eq_some_iff.1 h).1).trans h, (Below.refl _ w).alloc (Nat.le_refl _) o⟩
theorem blk7 (w : World) (o0 o1 o2 o3 o4 o5 o6 : Obj) : ∃ W, ((((((w.alloc o0).alloc o1).alloc o2).alloc o3).alloc o4).alloc o5).alloc o6 = W ∧ W.heap[w.heap.size]? = some o0 ∧ W.heap[w.heap.size + 1]? = some o1 ∧ W.heap[w.heap.size + 1 + 1]? = some o2 ∧ W.heap[w.heap.size + 1 + 1 + 1]? = some o3 ∧
    W.heap[w.heap.size + 1 + 1 + 1 + 1]? = some o4 ∧ W.heap[w.heap.size + 1 + 1 + 1 + 1 + 1]? = some o5 ∧ W.heap[w.heap.size + 1 + 1 + 1 + 1 + 1 + 1]? = some o6 ∧ W.heap.size = w.heap.size + 1 + 1 + 1 + 1 + 1 + 1 + 1 ∧ Below w.heap.size w W := by
  obtain ⟨W1, e1, s1, n1, k1, b1⟩ := push1 w o0
  obtain ⟨W2, e2, s2, n2, k2, b2⟩ := push1 W1 o1
  obtain ⟨W3, e3, s3, n3, k3, b3⟩ := push1 W2 o2
  obtain ⟨W4, e4, s4, n4, k4, b4⟩ := push1 W3 o3
  obtain ⟨W5, e5, s5, n5, k5, b5⟩ := push1 W4 o4
  obtain ⟨W6, e6, s6, n6, k6, b6⟩ := push1 W5 o5
  obtain ⟨W7, e7, s7, n7, k7, b7⟩ := push1 W6 o6
  rw [s1] at s2 n2
  rw [s2] at s3 n3
  rw [s3] at s4 n4
  rw [s4] at s5 n5
  rw [s5] at s6 n6
  rw [s6] at s7 n7
  exact ⟨W7, by rw [e1, e2, e3, e4, e5, e6, e7], k7 _ _ (k6 _ _ (k5 _ _ (k4 _ _ (k3 _ _ (k2 _ _ (n1)))))), k7 _ _ (k6 _ _ (k5 _ _ (k4 _ _ (k3 _ _ (n2))))), k7 _ _ (k6 _ _ (k5 _ _ (k4 _ _ (n3)))), k7 _ _ (k6 _ _ (k5 _ _ (n4))), k7 _ _ (k6 _ _ (n5)), k7 _ _ (n6), n7, s7, ((((((b1).trans (b2.mono (by omega))).trans (b3.mono (by omega))).trans (b4.mono (by omega))).trans (b5.mono (by omega))).trans (b6.mono (by omega))).trans (b7.mono (by omega))⟩

theorem own_blk {X Y : World} {row : Option Nat} {k : Nat} {o : Obj} (h : X.heap[k]? = some o) (ho : o.isCells = true) (hg : X.grownBy Y row) {B : Nat} (hr : ∀ r, row = some r → B ≤ r ∧ ∃ o : Obj, X.heap[r]? = some o ∧ o.isCells = false) : Y.heap[k]? = some o :=
  (hg.block k (Array.getElem?_eq_some_iff.1 h).1 (fun e => by obtain ⟨_, o', h1, h2⟩ := hr k e.symm; rw [h] at h1; cases h1; rw [ho] at h2; cases h2)).trans h
theorem two_le {w : World} (h : RowKit.Hid (Lib.Utf8Tabs 0 1 w)) : 2 ≤ w.heap.size := by
  obtain ⟨t1, t2⟩ := h.out
  exact World.block_lt_of_cell? w _ (t2 0 (by decide)).1
theorem drew_keeps {B : Nat} {W W' : World} (h : KeepsOthers W W') : KeepsFrom B W W'.drew := ⟨h.size, fun k o _ hk ho => h.same k o hk ho⟩
theorem boxed_of {W : World} {k : Nat} {t : TypeId} {v : Value} (h : W.heap[k]? = some (.cells #[v] t)) : Boxed W k t v := h

set_option maxHeartbeats 4000000 in
set_option maxRecDepth 100000 in
theorem utflib_Len.calls (a0 : ByteArray) (a1 a2 : Int) (r1 r2 r3 : Int) (w : World) (h : utflib_Len.f a0 a1 a2 = some (r1, r2, r3)) (HT_ : RowKit.Hid (Lib.Utf8Tabs 0 1 w)) :
    Calls Tryd.prog 40 #[.string a0, .int .i64 a1, .int .i64 a2] w fun e w' => e = .returned (.tuple #[.int .i64 r1, .int .i64 r2, .int .i64 r3]) ∧ Below w.heap.size w w' := by
  unfold utflib_Len.f at h
  split at h
  case isFalse => cases h
  case isTrue hs =>
  have hr := Option.some.inj h
  clear h
  refine (callsIn_wide (n := 10)).1 ?_
  refine callsIn_of_wp_marks Tryd.func40 rfl trivial ?_ rfl
  simp only [Tryd.ntmps40, List.size_toArray, List.length_cons, List.length_nil, Nat.reduceAdd, Nat.reduceSub, Array.replicate_succ, Array.replicate_zero, List.push_toArray, List.append_toArray, List.nil_append, List.cons_append]
  gi_wp2
  refine ⟨trivial, (callsIn_wide.2 (means_call a1 a0.size hs _)).mono ?_⟩
  rintro e w1 ⟨rfl, rfl⟩
  gi_wp2
  refine ⟨trivial, (callsIn_wide.2 (means_call a2 a0.size hs _)).mono ?_⟩
  rintro e w2 ⟨rfl, rfl⟩
  generalize meansV a1 a0.size = a at hr ⊢
  generalize meansV a2 a0.size = b at hr ⊢
  by_cases hc : a < 1 ∨ (a0.size : Int) + 1 < a ∨ (a0.size : Int) < b
  · unfold lenV at hr
    rw [if_pos hc] at hr
    cases hr
    have dd : (decide (a < 1) = true) ∨ (decide (a < 1) = false ∧ decide ((a0.size : Int) + 1 < a) = true) ∨ (decide (a < 1) = false ∧ decide ((a0.size : Int) + 1 < a) = false ∧ decide ((a0.size : Int) < b) = true) := by
      simp only [decide_eq_true_eq, decide_eq_false_iff_not]
      omega
    rcases dd with d1 | ⟨d1, d2⟩ | ⟨d1, d2, d3⟩
    all_goals
      gi_wp2
      have z0 := ((Boxed.new w 3 (.int .i64 0)).alloc (.cells #[.int .i64 0] 3)).alloc (.cells #[.int .i64 1] 23)
      have z1 := (Boxed.new (w.alloc (.cells #[.int .i64 0] 3)) 3 (.int .i64 0)).alloc (.cells #[.int .i64 1] 23)
      have z2 := Boxed.new ((w.alloc (.cells #[.int .i64 0] 3)).alloc (.cells #[.int .i64 0] 3)) 23 (.int .i64 1)
      simp only [World.size_alloc] at z1 z2
      refine ⟨.tuple #[.int .i64 0, .int .i64 0, .int .i64 1], ?_, rfl, grow1 (grow1 (grow1 (Below.refl _ w) _) _) _⟩
      simp [results, Tryd.f40, go_sem, z0.cell, z1.cell, z2.cell]
  · unfold lenV at hr
    rw [if_neg hc] at hr
    have d1 : decide (a < 1) = false := decide_eq_false (by omega)
    have d2 : decide ((a0.size : Int) + 1 < a) = false := decide_eq_false (by omega)
    have d3 : decide ((a0.size : Int) < b) = false := decide_eq_false (by omega)
    gi_wp2
    refine ⟨trivial, (callsIn_wide.2 (span_call a0 a b _)).mono ?_⟩
    rintro e w3 ⟨rfl, hw3⟩
    obtain ⟨W3, hW3, b0, b1, b2, b3, b4, b5, b6, hsz, hbel⟩ := blk7 w (.cells #[.int .i64 0] 3) (.cells #[.int .i64 0] 3) (.cells #[.int .i64 0] 23) (.cells #[.int .i64 0] 3) (.cells #[.string a0] 9) (.cells #[.int .i64 a] 3) (.cells #[.int .i64 b] 3)
    rw [hW3] at hw3
    subst hw3
    have HB := Lib.hid (And.intro b0 (And.intro b1 (And.intro b2 (And.intro b3 (And.intro b4 (And.intro b5 (And.intro b6 (And.intro hsz hbel))))))))
    clear hW3 b0 b1 b2 b3 b4 b5 b6 hsz hbel
    simp only [World.size_alloc]
    gi_wp2
    obtain ⟨b0, b1, b2, b3, b4, b5, b6, hsz, hbel⟩ := HB.out
    have h2 := two_le HT_
    refine wpIn_rangeFunc_ownH (F := Fence.wide) rfl (by decide) (gf := 70) (lb := #[.pointer (some ⟨w.heap.size + 1 + 1 + 1 + 1 + 1, 0, none⟩), .pointer (some ⟨w.heap.size + 1 + 1 + 1 + 1 + 1 + 1, 0, none⟩), .pointer (some ⟨w.heap.size + 1 + 1 + 1 + 1, 0, none⟩)]) rfl trivial (enters_of Tryd.func70 (by kernel_rfl) rfl)
      (span1_stops 9 a0 hs a b (by omega) (by omega) (cells4 w.heap.size) w3 (w.heap.size + 1 + 1 + 1 + 1 + 1) (w.heap.size + 1 + 1 + 1 + 1 + 1 + 1) (w.heap.size + 1 + 1 + 1 + 1) (boxed_of b5).cell (boxed_of b6).cell (boxed_of b4).cell
        (by unfold cells4; omega) (by unfold cells4; omega) (by unfold cells4; omega) (by unfold cells4; omega) (by unfold cells4; omega) (tab_step HT_ hbel)) Kp.trans (Kp.put (Nat.le_refl _)) (Below.refl _ _) (fun _ => rfl)
      (fun pre W => (∀ r ∈ pre, inv r = false) ∧ Boxed W w.heap.size 3 (.int .i64 0) ∧ Boxed W (w.heap.size + 1) 3 (.int .i64 0) ∧ Boxed W (w.heap.size + 1 + 1) 23 (.int .i64 0) ∧ Boxed W (w.heap.size + 1 + 1 + 1) 3 (.int .i64 pre.length) ∧ Below w.heap.size w W ∧ w3.heap.size ≤ W.heap.size)
      (fun c pre W => c = .ret ∧ (∃ pre' r, pre = pre' ++ [r] ∧ (∀ x ∈ pre', inv x = false) ∧ inv r = true ∧ Boxed W w.heap.size 3 (.int .i64 0) ∧ Boxed W (w.heap.size + 1) 3 (.int .i64 ((r.1 : Int) + 1)) ∧ Boxed W (w.heap.size + 1 + 1) 23 (.int .i64 0)) ∧ Below w.heap.size w W ∧ w3.heap.size ≤ W.heap.size)
      (fun pre X Y row hx hg hr => ⟨hx.1, own_blk hx.2.1 rfl hg hr, own_blk hx.2.2.1 rfl hg hr, own_blk hx.2.2.2.1 rfl hg hr, own_blk hx.2.2.2.2.1 rfl hg hr, hx.2.2.2.2.2.1.grown hg (by have := hx.2.2.2.2.2.2; omega) (fun k e => by have := (hr k e).1; omega), Nat.le_trans hx.2.2.2.2.2.2 hg.size⟩)
      (fun c pre X Y row hx hg hr => ⟨hx.1, (by obtain ⟨p', r, e1, e2, e3, e4, e5, e6⟩ := hx.2.1; exact ⟨p', r, e1, e2, e3, own_blk e4 rfl hg hr, own_blk e5 rfl hg hr, own_blk e6 rfl hg hr⟩), hx.2.2.1.grown hg (by have := hx.2.2.2; omega) (fun k e => by have := (hr k e).1; omega), Nat.le_trans hx.2.2.2 hg.size⟩)
      ⟨(by simp), b0, b1, b2, b3, hbel, Nat.le_refl _⟩
      (fun x a' W => ∃ Bx, w3.heap.size ≤ Bx ∧ W.heap[Bx]? = some (.cells #[.int .i64 ((x.1 : Int) + 1), .int .i64 x.2.1, .int .i64 x.2.2] 28 (0, 0)) ∧ a' = { tmps := #[.string a0, .int .i64 a1, .int .i64 a2, undef, undef, undef, .pointer (some ⟨w.heap.size, 0, none⟩), .pointer (some ⟨w.heap.size + 1, 0, none⟩), .pointer (some ⟨w.heap.size + 1 + 1, 0, none⟩), .int .i64 a, .int .i64 b, .pointer (some ⟨w.heap.size + 1 + 1 + 1, 0, none⟩), .pointer (some ⟨Bx, 0, none⟩), .int .i64 a1, .string a0, .int .i64 a0.size, .int .i64 a, .int .i64 a2, .string a0, .int .i64 a0.size, .int .i64 b, .int .i64 a, .bool false, .bool false, .int .i64 a, .string a0, .int .i64 a0.size, .int .i64 (a0.size + 1), .bool false, .bool false, .bool false, .int .i64 b, .string a0, .int .i64 a0.size, .bool false, .bool false, .string a0, .int .i64 a, .int .i64 b, .func (.func 70) #[] #[.pointer (some ⟨w.heap.size + 1 + 1 + 1 + 1 + 1, 0, none⟩), .pointer (some ⟨w.heap.size + 1 + 1 + 1 + 1 + 1 + 1, 0, none⟩), .pointer (some ⟨w.heap.size + 1 + 1 + 1 + 1, 0, none⟩)], .agg #[.int .i64 ((x.1 : Int) + 1), .int .i64 x.2.1, .int .i64 x.2.2], undef, undef, undef, undef, undef, undef, undef], defers := [] })
      (fun x a' _ X Y row hx hg hr => by obtain ⟨Bx, h1, h2, h3⟩ := hx; exact ⟨Bx, h1, own_blk h2 rfl hg hr, h3⟩)
      ?assign ?body ?done ?stop
    case assign =>
      rintro l pre x W K ⟨hp, x0, x1, x2, x3, hbW, hsW⟩ hK
      unfold encR
      gi_wp2
      refine hK _ _ ((KeepsOthers.alloc _ _).from _) (Kp.alloc _ _ hsW) ⟨hp, x0.alloc _, x1.alloc _, x2.alloc _, x3.alloc _, hbW.alloc (by omega) _, by simp; omega⟩ ⟨W.heap.size, hsW, World.alloc_heap_new _ _, rfl⟩
    case body =>
      rintro l pre x a' W hl ⟨rr, hrr⟩ ⟨hp, x0, x1, x2, x3, hbW, hsW⟩ ⟨Bx, hBx, bX, rfl⟩ hlt
      obtain ⟨c0, c1, c2, f0, f1, f2⟩ := row3 bX
      gi_wp2
      refine ⟨trivial, (CallsIn.inRound l (callsIn_wide.2 (uinv_call x W))).mono ?_⟩
      rintro e w' ⟨rfl, rfl⟩
      obtain ⟨W1, hW1, s1, n1, k1, bl1⟩ := push1 W (.cells #[.int .i64 ((x.1 : Int) + 1), .int .i64 x.2.1, .int .i64 x.2.2] 28)
      have y0 : Boxed W1 _ _ _ := k1 _ _ x0
      have y1 : Boxed W1 _ _ _ := k1 _ _ x1
      have y2 : Boxed W1 _ _ _ := k1 _ _ x2
      have y3 : Boxed W1 _ _ _ := k1 _ _ x3
      have z0 := k1 _ _ bX
      rw [hW1]
      have hkf : KeepsFrom w3.heap.size W W1 := by rw [← hW1]; exact (KeepsOthers.alloc _ _).from _
      have hkp : Kp (cells4 w.heap.size) w3.heap.size W W1 := by rw [← hW1]; exact Kp.alloc _ _ hsW
      have hb1 : Below w.heap.size w W1 := hbW.trans (bl1.mono hbW.size)
      have hB1 : w3.heap.size ≤ W1.heap.size := by omega
      have P := Lib.hid (And.intro hkf (And.intro hkp (And.intro hb1 hB1)))
      have XX := Lib.hid (And.intro x0 (And.intro x1 (And.intro x2 x3)))
      clear hkf hkp hb1 hB1 x0 x1 x2 x3 c0 c1 c2 f0 f1 f2 hW1 k1 n1 bl1 bX
      have yc0 := y0.cell
      have yf0 := y0.frozen
      have yc1 := y1.cell
      have yf1 := y1.frozen
      have yc2 := y2.cell
      have yf2 := y2.frozen
      have yc3 := y3.cell
      have yf3 := y3.frozen
      obtain ⟨c0, c1, c2, f0, f1, f2⟩ := row3 z0
      have Y := Lib.hid (And.intro y0 (And.intro y1 (And.intro y2 y3)))
      clear y0 y1 y2 y3 z0
      cases hiv : inv x
      · gi_wp2
        obtain ⟨y0, y1, y2, y3⟩ := Y.out
        obtain ⟨hkf, hkp, hb1, hB1⟩ := P.out
        have hne := y3.lt
        refine ⟨hkf.trans ((KeepsOthers.setCell _ _ _).from _), hkp.trans (Kp.set _ _ _ (by unfold cells4; omega)), fun r h => ?_, y0.other (by omega) _, y1.other (by omega) _, y2.other (by omega) _, ?_, hb1.setCell (p := ⟨w.heap.size + 1 + 1 + 1, 0, none⟩) (by show w.heap.size ≤ w.heap.size + 1 + 1 + 1; omega) _, by simpa [World.setCell] using hB1⟩
        · rcases List.mem_append.1 h with h | h
          · exact hp r h
          · obtain rfl := List.mem_singleton.1 h
            exact hiv
        · rw [List.length_append]
          exact y3.set _
      · gi_wp2
        gi_region
        all_goals
          gi_wp2
          obtain ⟨y0, y1, y2, y3⟩ := Y.out
          obtain ⟨hkf, hkp, hb1, hB1⟩ := P.out
          refine ⟨hkf.trans (drew_keeps (((KeepsOthers.setCell _ _ _).trans (KeepsOthers.setCell _ _ _)).trans (KeepsOthers.setCell _ _ _))), rfl, ⟨pre, x, rfl, hp, hiv, ((y0.set _).other (by omega) _).other (by omega) _, ((y1.other (by omega) _).set _).other (by omega) _, ((y2.other (by omega) _).other (by omega) _).set _⟩, ?_, ?_⟩
          · exact (((hb1.setCell (p := ⟨w.heap.size, 0, none⟩) (Nat.le_refl _) _).setCell (p := ⟨w.heap.size + 1, 0, none⟩) (Nat.le_succ _) _).setCell (p := ⟨w.heap.size + 1 + 1, 0, none⟩) (by show w.heap.size ≤ w.heap.size + 1 + 1; omega) _).drew
          · simpa [World.setCell, World.drew] using hB1
    case done =>
      rintro D ys W hD rfl ⟨hp, x0, x1, x2, x3, hbW, hsW⟩ hDk
      have xc0 := x0.cell
      have xf0 := x0.frozen
      have xc1 := x1.cell
      have xf1 := x1.frozen
      have xc2 := x2.cell
      have xf2 := x2.frozen
      have xc3 := x3.cell
      have xf3 := x3.frozen
      gi_wp2
      have z0 := ((x0.set (.int .i64 (spanL a0 (a.toNat - 1) b).length)).other (show w.heap.size ≠ w.heap.size + 1 by omega) (.int .i64 0)).other (show w.heap.size ≠ w.heap.size + 1 + 1 by omega) (.int .i64 0)
      have z1 := ((x1.other (show w.heap.size + 1 ≠ w.heap.size by omega) (.int .i64 (spanL a0 (a.toNat - 1) b).length)).set (.int .i64 0)).other (show w.heap.size + 1 ≠ w.heap.size + 1 + 1 by omega) (.int .i64 0)
      have z2 := ((x2.other (show w.heap.size + 1 + 1 ≠ w.heap.size by omega) (.int .i64 (spanL a0 (a.toNat - 1) b).length)).other (show w.heap.size + 1 + 1 ≠ w.heap.size + 1 by omega) (.int .i64 0)).set (.int .i64 0)
      have hbF : Below w.heap.size w (((W.setCell ⟨w.heap.size, 0, none⟩ (.int .i64 (spanL a0 (a.toNat - 1) b).length)).setCell ⟨w.heap.size + 1, 0, none⟩ (.int .i64 0)).setCell ⟨w.heap.size + 1 + 1, 0, none⟩ (.int .i64 0)) :=
        ((hbW.setCell (p := ⟨w.heap.size, 0, none⟩) (Nat.le_refl _) _).setCell (p := ⟨w.heap.size + 1, 0, none⟩) (Nat.le_succ _) _).setCell (p := ⟨w.heap.size + 1 + 1, 0, none⟩) (by show w.heap.size ≤ w.heap.size + 1 + 1; omega) _
      have hDF := hDk
      rw [← Below.heap_setCell W ⟨w.heap.size, 0, none⟩ (.int .i64 (spanL a0 (a.toNat - 1) b).length) D (by show D ≠ w.heap.size; omega), ← Below.heap_setCell _ ⟨w.heap.size + 1, 0, none⟩ (.int .i64 0) D (by show D ≠ w.heap.size + 1; omega), ← Below.heap_setCell _ ⟨w.heap.size + 1 + 1, 0, none⟩ (.int .i64 0) D (by show D ≠ w.heap.size + 1 + 1; omega)] at hDF
      generalize ((W.setCell ⟨w.heap.size, 0, none⟩ (.int .i64 (spanL a0 (a.toNat - 1) b).length)).setCell ⟨w.heap.size + 1, 0, none⟩ (.int .i64 0)).setCell ⟨w.heap.size + 1 + 1, 0, none⟩ (.int .i64 0) = WF at z0 z1 z2 hbF hDF ⊢
      refine ⟨by simp, .inl ⟨_, _, rfl, run_takeDeferred hDF, ?_⟩⟩
      replace z0 := z0.kept (grownBy_putObj' WF D (.deferred none)) (fun e => by cases e; omega)
      replace z1 := z1.kept (grownBy_putObj' WF D (.deferred none)) (fun e => by cases e; omega)
      replace z2 := z2.kept (grownBy_putObj' WF D (.deferred none)) (fun e => by cases e; omega)
      have hr2 : lenL (spanL a0 (a - 1).toNat b) = (((spanL a0 (a - 1).toNat b).length : Int), 0, 0) := by
        unfold lenL
        rw [badAt_none _ hp, if_pos rfl]
      rw [hr2] at hr
      cases hr
      refine ⟨.tuple #[.int .i64 (spanL a0 (a - 1).toNat b).length, .int .i64 0, .int .i64 0], ?_, rfl, ?_⟩
      · rw [show (a - 1).toNat = a.toNat - 1 by omega]
        simp [results, Tryd.f40, go_sem, z0.cell, z1.cell, z2.cell]
      · exact hbF.grown (grownBy_putObj' WF D (.deferred none)) (by have := hbF.size; omega) (fun k e => by cases e; omega)
    case stop =>
      rintro D c pre W hD hpre ⟨rfl, ⟨pre', r, rfl, hp, hr', x0, x1, x2⟩, hbW, hsW⟩ hDk
      gi_wp2
      refine ⟨by simp, .inl ⟨_, _, rfl, run_takeDeferred hDk, ?_⟩⟩
      have z0 := x0.kept (grownBy_putObj' W D (.deferred none)) (fun e => by cases e; omega)
      have z1 := x1.kept (grownBy_putObj' W D (.deferred none)) (fun e => by cases e; omega)
      have z2 := x2.kept (grownBy_putObj' W D (.deferred none)) (fun e => by cases e; omega)
      obtain ⟨t, ht⟩ := hpre
      have hbad : badAt (spanL a0 (a - 1).toNat b) = (r.1 : Int) + 1 := by
        rw [← ht, List.append_assoc]
        exact badAt_first pre' r t hp hr'
      have hr2 : lenL (spanL a0 (a - 1).toNat b) = (0, (r.1 : Int) + 1, 0) := by
        unfold lenL
        rw [hbad, if_neg (by omega)]
      rw [hr2] at hr
      cases hr
      refine ⟨.tuple #[.int .i64 0, .int .i64 ((r.1 : Int) + 1), .int .i64 0], ?_, rfl, ?_⟩
      · simp [results, Tryd.f40, go_sem, z0.cell, z1.cell, z2.cell]
      · exact hbW.grown (grownBy_putObj' W D (.deferred none)) (by omega) (fun k e => by cases e; omega)
end Go.Proofs.YtlmmhlabacghnaaDoor.PR
/- utflib.Codes: the code points of the runes that begin from a byte to a byte: its walk over span's closure. -/
namespace Go.Proofs.YtlmmhlabacghnaaDoor.PR
open Go.RowKit Go.Shelf Go.Proofs.YtlmmhlabacghnaaDoorW.PrintWords Go.Proofs.YtlmmhlabacghnaaDoorW.PrintLast Go.Proofs.YtlmmhlabacghnaaDoorW.PrintMore Go.Proofs.YtlmmhlabacghnaaDoor.RuneMath
set_option linter.unusedVariables false
set_option linter.unusedSimpArgs false
attribute [local go_sem] Oper.semAt_some

def codesL : List Int → List R3 → List Int × Int
  | acc, [] => (acc, 0)
  | acc, r :: l => if inv r = true then ([], 3) else if acc.length = 200 then ([], 14) else codesL (acc ++ [(r.2.2 : Int)]) l
/-- The code points. -/
def cps (l : List R3) : List Int := l.map fun r => (r.2.2 : Int)
theorem codes_run : ∀ (pre l : List R3) (acc : List Int), (∀ r ∈ pre, inv r = false) → acc.length + pre.length ≤ 200 → codesL acc (pre ++ l) = codesL (acc ++ cps pre) l
  | [], l, acc, _, _ => by simp [cps]
  | r :: pre, l, acc, h, hl => by
    simp only [List.length_cons] at hl
    simp only [List.cons_append, codesL]
    rw [if_neg (by rw [h r List.mem_cons_self]; decide), if_neg (by omega), codes_run pre l _ (fun x hx => h x (List.mem_cons_of_mem _ hx)) (by simp; omega)]
    simp [cps]
def codesV (s : ByteArray) (a b : Int) : List Int × Int := if a < 1 ∨ (s.size : Int) < b then ([], 1) else codesL [] (spanL s (a - 1).toNat b)
def utflib_Codes.f (s : ByteArray) (i j : Int) : Option (List Int × Int) := if s.size ≤ 4611686018427387904 then some (codesV s (meansV i s.size) (meansV j s.size)) else none

theorem blk6 (w : World) (o0 o1 o2 o3 o4 o5 : Obj) : ∃ W, (((((w.alloc o0).alloc o1).alloc o2).alloc o3).alloc o4).alloc o5 = W ∧ W.heap[w.heap.size]? = some o0 ∧ W.heap[w.heap.size + 1]? = some o1 ∧ W.heap[w.heap.size + 1 + 1]? = some o2 ∧ W.heap[w.heap.size + 1 + 1 + 1]? = some o3 ∧ W.heap[w.heap.size + 1 + 1 + 1 + 1]? = some o4 ∧ W.heap[w.heap.size + 1 + 1 + 1 + 1 + 1]? = some o5 ∧ W.heap.size = w.heap.size + 1 + 1 + 1 + 1 + 1 + 1 ∧ Below w.heap.size w W := by
  obtain ⟨W1, e1, s1, n1, k1, b1⟩ := push1 w o0
  obtain ⟨W2, e2, s2, n2, k2, b2⟩ := push1 W1 o1
  obtain ⟨W3, e3, s3, n3, k3, b3⟩ := push1 W2 o2
  obtain ⟨W4, e4, s4, n4, k4, b4⟩ := push1 W3 o3
  obtain ⟨W5, e5, s5, n5, k5, b5⟩ := push1 W4 o4
  obtain ⟨W6, e6, s6, n6, k6, b6⟩ := push1 W5 o5
  rw [s1] at s2 n2
  rw [s2] at s3 n3
  rw [s3] at s4 n4
  rw [s4] at s5 n5
  rw [s5] at s6 n6
  exact ⟨W6, by rw [e1, e2, e3, e4, e5, e6], k6 _ _ (k5 _ _ (k4 _ _ (k3 _ _ (k2 _ _ (n1))))), k6 _ _ (k5 _ _ (k4 _ _ (k3 _ _ (n2)))), k6 _ _ (k5 _ _ (k4 _ _ (n3))), k6 _ _ (k5 _ _ (n4)), k6 _ _ (n5), n6, s6, (((((b1).trans (b2.mono (by omega))).trans (b3.mono (by omega))).trans (b4.mono (by omega))).trans (b5.mono (by omega))).trans (b6.mono (by omega))⟩
theorem own_row {X Y : World} {row : Option Nat} {base : Nat} {e : TypeId} {size : Nat} {v : Value} {k : Nat} {xs : List Value} (h : X.ownsRow base e size v k xs) (hg : X.grownBy Y row) {B : Nat} (hr : ∀ r, row = some r → B ≤ r ∧ ∃ o : Obj, X.heap[r]? = some o ∧ o.isCells = false) : Y.ownsRow base e size v k xs := by
  refine h.kept hg ?_
  rcases h.2 with ⟨rfl, _⟩ | ⟨g, cap, cur, rfl, _, hgb, _⟩
  · exact .inl rfl
  · refine .inr fun e' => ?_
    obtain ⟨_, o, ho, hc⟩ := hr g (by simpa [Value.ownBlock] using e'.symm)
    rw [hgb] at ho; cases ho; cases hc
/-- Behind 'l = append(l, ..)', l in a box of an elder frame, its row in blocks from n₀ on. -/
theorem appended2 {W w1 : World} {n₀ B : Nat} {t e : TypeId} {size : Nat} {v v' : Value} {k m : Nat} {xs ys : List Value} {tmp : Obj}
    (hv : Boxed W B t v) (hB : B < n₀) (hrow : W.ownsRow n₀ e size v k xs) (hn₀ : n₀ ≤ W.heap.size) (hown' : w1.ownsRow n₀ e size v' m ys) (hgrow : (W.alloc tmp).grownBy w1 v.ownBlock) :
    Boxed w1 B t v ∧ Boxed (w1.setCell ⟨B, 0, none⟩ v') B t v' ∧ (w1.setCell ⟨B, 0, none⟩ v').ownsRow n₀ e size v' m ys ∧ KeepsOthers W (w1.setCell ⟨B, 0, none⟩ v') ∧ Frm (fun k => k = B) n₀ W (w1.setCell ⟨B, 0, none⟩ v') := by
  have hge : ∀ j, v.ownBlock = some j → n₀ ≤ j := fun j ej => (hrow.lt j ej).1
  have hv1 : Boxed w1 B t v := (hv.alloc tmp).kept hgrow (fun e' => by have := hge B e'.symm; omega)
  refine ⟨hv1, hv1.set v', hown'.kept (grownBy_setCell' w1 B v') (.inr fun e' => by have := (hown'.lt B e').1; omega), ?_, ?_⟩
  · refine ((KeepsOthers.alloc W tmp).trans (KeepsOthers.of_grownBy hgrow fun j o ej hj => ?_)).trans (KeepsOthers.setCell _ _ _)
    rcases (hrow.alloc tmp).2 with ⟨rfl, _⟩ | ⟨g, cap, cur, rfl, _, hgb, _⟩
    · simp [Value.ownBlock] at ej
    · obtain rfl : g = j := by simpa [Value.ownBlock] using ej
      rw [hgb] at hj; cases hj; rfl
  · refine ⟨hgrow.os, hgrow.tape, hgrow.output, ?_, fun j hj hne => ?_⟩
    · have := hgrow.size
      simp [World.setCell] at this ⊢
      omega
    · rw [Below.heap_setCell _ _ _ _ hne, hgrow.block j (by simp; omega) (fun e' => by have := hge j e'.symm; omega), Below.heap_alloc _ _ _ (by omega)]
theorem KeepsOthers.walks {W W' : World} (h : KeepsOthers W W') : KeepsWalks W W' := ⟨h.size, fun k o hk ho => h.same k o hk (Obj.not_cells_of_walk ho)⟩
theorem Kp.of_frm {c c' : Nat → Prop} {B : Nat} {W W' : World} (h : KeepsOthers W W') (hf : Frm c' B W W') (hc : ∀ k, c' k → c k) : Kp c B W W' := ⟨KeepsOthers.walks h, fun k hk hn => hf.block k hk (fun h' => hn (hc k h'))⟩
theorem infoInt64 : (Tryd.prog.info? 3).map (fun i => (i.zero, i.size, i.bytes)) = some (some (.int .i64 0), 1, 8) := by kernel_rfl

/-- The caller's own cells: those that a round may write. -/
def cells3 (B : Nat) (k : Nat) : Prop := B ≤ k ∧ k < B + 3

set_option maxHeartbeats 4000000 in
set_option maxRecDepth 100000 in
theorem utflib_Codes.calls (a0 : ByteArray) (a1 a2 : Int) (r1 : List Int) (r2 : Int) (w : World) (h : utflib_Codes.f a0 a1 a2 = some (r1, r2)) (HT_ : RowKit.Hid (Lib.Utf8Tabs 0 1 w)) :
    Calls Tryd.prog 42 #[.string a0, .int .i64 a1, .int .i64 a2] w fun e w' => ∃ v0_ : Value, e = .returned (.tuple #[v0_, .int .i64 r2]) ∧ Kd.R (Kd.int .i64) 3 w' w.heap.size (fun _ => True) v0_ r1 ∧ Below w.heap.size w w' := by
  unfold utflib_Codes.f at h
  split at h
  case isFalse => cases h
  case isTrue hs =>
  have hr := Option.some.inj h
  clear h
  obtain ⟨i0, hi, hz0, hz1, hz2⟩ := info_parts infoInt64
  refine (callsIn_wide (n := 10)).1 ?_
  refine callsIn_of_wp_marks Tryd.func42 rfl trivial ?_ rfl
  simp only [Tryd.ntmps42, List.size_toArray, List.length_cons, List.length_nil, Nat.reduceAdd, Nat.reduceSub, Array.replicate_succ, Array.replicate_zero, List.push_toArray, List.append_toArray, List.nil_append, List.cons_append]
  gi_wp2
  refine ⟨trivial, (callsIn_wide.2 (means_call a1 a0.size hs _)).mono ?_⟩
  rintro e w1 ⟨rfl, rfl⟩
  gi_wp2
  refine ⟨trivial, (callsIn_wide.2 (means_call a2 a0.size hs _)).mono ?_⟩
  rintro e w2 ⟨rfl, rfl⟩
  generalize meansV a1 a0.size = a at hr ⊢
  generalize meansV a2 a0.size = b at hr ⊢
  by_cases hc : a < 1 ∨ (a0.size : Int) < b
  · unfold codesV at hr
    rw [if_pos hc] at hr
    cases hr
    have dd : (decide (a < 1) = true) ∨ (decide (a < 1) = false ∧ decide ((a0.size : Int) < b) = true) := by
      simp only [decide_eq_true_eq, decide_eq_false_iff_not]
      omega
    rcases dd with d1 | ⟨d1, d3⟩
    all_goals
      gi_wp2
      have z0 := (Boxed.new w 43 (.slice none 0 0)).alloc (.cells #[.int .i64 1] 23)
      have z1 := Boxed.new (w.alloc (.cells #[.slice none 0 0] 43)) 23 (.int .i64 1)
      simp only [World.size_alloc] at z1
      refine ⟨.tuple #[.slice none 0 0, .int .i64 1], ?_, .slice none 0 0, rfl, Kd.R_nil _ _ _ _ _, grow1 (grow1 (Below.refl _ w) _) _⟩
      simp [results, Tryd.f42, go_sem, z0.cell, z1.cell]
  · unfold codesV at hr
    rw [if_neg hc] at hr
    have d1 : decide (a < 1) = false := decide_eq_false (by omega)
    have d3 : decide ((a0.size : Int) < b) = false := decide_eq_false (by omega)
    gi_wp2
    refine ⟨trivial, (callsIn_wide.2 (span_call a0 a b _)).mono ?_⟩
    rintro e w3 ⟨rfl, hw3⟩
    obtain ⟨W3, hW3, b0, b1, b2, b4, b5, b6, hsz, hbel⟩ := blk6 w (.cells #[.slice none 0 0] 43) (.cells #[.int .i64 0] 23) (.cells #[.slice none 0 0] 43) (.cells #[.string a0] 9) (.cells #[.int .i64 a] 3) (.cells #[.int .i64 b] 3)
    rw [hW3] at hw3
    subst hw3
    have HB := Lib.hid (And.intro b0 (And.intro b1 (And.intro b2 (And.intro b4 (And.intro b5 (And.intro b6 (And.intro hsz hbel)))))))
    clear hW3 b0 b1 b2 b4 b5 b6 hsz hbel
    simp only [World.size_alloc]
    gi_wp2
    obtain ⟨b0, b1, b2, b4, b5, b6, hsz, hbel⟩ := HB.out
    have h2 := two_le HT_
    refine wpIn_rangeFunc_ownH (F := Fence.wide) rfl (by decide) (gf := 70) (lb := #[.pointer (some ⟨w.heap.size + 1 + 1 + 1 + 1, 0, none⟩), .pointer (some ⟨w.heap.size + 1 + 1 + 1 + 1 + 1, 0, none⟩), .pointer (some ⟨w.heap.size + 1 + 1 + 1, 0, none⟩)]) rfl trivial (enters_of Tryd.func70 (by kernel_rfl) rfl)
      (span1_stops 9 a0 hs a b (by omega) (by omega) (cells3 w.heap.size) w3 (w.heap.size + 1 + 1 + 1 + 1) (w.heap.size + 1 + 1 + 1 + 1 + 1) (w.heap.size + 1 + 1 + 1) (boxed_of b5).cell (boxed_of b6).cell (boxed_of b4).cell
        (by unfold cells3; omega) (by unfold cells3; omega) (by unfold cells3; omega) (by unfold cells3; omega) (by unfold cells3; omega) (tab_step HT_ hbel)) Kp.trans (Kp.put (Nat.le_refl _)) (Below.refl _ _) (fun _ => rfl)
      (fun pre W => ((∀ r ∈ pre, inv r = false) ∧ pre.length ≤ 200) ∧ Boxed W w.heap.size 43 (.slice none 0 0) ∧ Boxed W (w.heap.size + 1) 23 (.int .i64 0) ∧ (∃ v, Boxed W (w.heap.size + 1 + 1) 43 v ∧ W.ownsRow w3.heap.size 3 1 v pre.length ((cps pre).map (Value.int .i64))) ∧ Below w.heap.size w W ∧ w3.heap.size ≤ W.heap.size)
      (fun c pre W => c = .ret ∧ (∃ pre' r e, pre = pre' ++ [r] ∧ ((∀ x ∈ pre', inv x = false) ∧ pre'.length ≤ 200) ∧ ((inv r = true ∧ e = 3) ∨ (inv r = false ∧ pre'.length = 200 ∧ e = 14)) ∧ Boxed W w.heap.size 43 (.slice none 0 0) ∧ Boxed W (w.heap.size + 1) 23 (.int .i64 e)) ∧ Below w.heap.size w W ∧ w3.heap.size ≤ W.heap.size)
      (fun pre X Y row hx hg hr => ⟨hx.1, own_blk hx.2.1 rfl hg hr, own_blk hx.2.2.1 rfl hg hr, (by obtain ⟨v, hv, ho⟩ := hx.2.2.2.1; exact ⟨v, own_blk hv rfl hg hr, own_row ho hg hr⟩), hx.2.2.2.2.1.grown hg (by have := hx.2.2.2.2.2; omega) (fun k e => by have := (hr k e).1; omega), Nat.le_trans hx.2.2.2.2.2 hg.size⟩)
      (fun c pre X Y row hx hg hr => ⟨hx.1, (by obtain ⟨p', r, e, e1, e2, e3, e4, e5⟩ := hx.2.1; exact ⟨p', r, e, e1, e2, e3, own_blk e4 rfl hg hr, own_blk e5 rfl hg hr⟩), hx.2.2.1.grown hg (by have := hx.2.2.2; omega) (fun k e => by have := (hr k e).1; omega), Nat.le_trans hx.2.2.2 hg.size⟩)
      ⟨⟨(by simp), by simp⟩, b0, b1, ⟨_, b2, World.ownsRow_nil _ _ _ _⟩, hbel, Nat.le_refl _⟩
      (fun x a' W => ∃ Bx, w3.heap.size ≤ Bx ∧ W.heap[Bx]? = some (.cells #[.int .i64 ((x.1 : Int) + 1), .int .i64 x.2.1, .int .i64 x.2.2] 28 (0, 0)) ∧ a' = { tmps := #[.string a0, .int .i64 a1, .int .i64 a2, undef, undef, undef, .pointer (some ⟨w.heap.size, 0, none⟩), .pointer (some ⟨w.heap.size + 1, 0, none⟩), .int .i64 a, .int .i64 b, .pointer (some ⟨w.heap.size + 1 + 1, 0, none⟩), .pointer (some ⟨Bx, 0, none⟩), .int .i64 a1, .string a0, .int .i64 a0.size, .int .i64 a, .int .i64 a2, .string a0, .int .i64 a0.size, .int .i64 b, .int .i64 a, .bool false, .bool false, .int .i64 b, .string a0, .int .i64 a0.size, .bool false, .bool false, .string a0, .int .i64 a, .int .i64 b, .func (.func 70) #[] #[.pointer (some ⟨w.heap.size + 1 + 1 + 1 + 1, 0, none⟩), .pointer (some ⟨w.heap.size + 1 + 1 + 1 + 1 + 1, 0, none⟩), .pointer (some ⟨w.heap.size + 1 + 1 + 1, 0, none⟩)], .agg #[.int .i64 ((x.1 : Int) + 1), .int .i64 x.2.1, .int .i64 x.2.2], undef, undef, undef, undef, undef, undef, undef, undef, undef, undef, undef, undef, undef], defers := [] })
      (fun x a' _ X Y row hx hg hr => by obtain ⟨Bx, h1, h2, h3⟩ := hx; exact ⟨Bx, h1, own_blk h2 rfl hg hr, h3⟩)
      ?assign ?body ?done ?stop
    case assign =>
      rintro l pre x W K ⟨hp, x0, x1, ⟨v, xv, ho⟩, hbW, hsW⟩ hK
      unfold encR
      gi_wp2
      refine hK _ _ ((KeepsOthers.alloc _ _).from _) (Kp.alloc _ _ hsW) ⟨hp, x0.alloc _, x1.alloc _, ⟨v, xv.alloc _, ho.alloc _⟩, hbW.alloc (by omega) _, by simp; omega⟩ ⟨W.heap.size, hsW, World.alloc_heap_new _ _, rfl⟩
    case body =>
      rintro l pre x a' W hl ⟨rr, hrr⟩ ⟨⟨hp, hpl⟩, x0, x1, ⟨v, xv, ho⟩, hbW, hsW⟩ ⟨Bx, hBx, bX, rfl⟩ hlt
      obtain ⟨c0, c1, c2, f0, f1, f2⟩ := row3 bX
      obtain ⟨A1, n1, rfl⟩ := own_slice ho
      gi_wp2
      refine ⟨trivial, (CallsIn.inRound l (callsIn_wide.2 (uinv_call x W))).mono ?_⟩
      rintro e w' ⟨rfl, rfl⟩
      obtain ⟨W1, hW1, s1, n1, k1, bl1⟩ := push1 W (.cells #[.int .i64 ((x.1 : Int) + 1), .int .i64 x.2.1, .int .i64 x.2.2] 28)
      have y0 : Boxed W1 _ _ _ := k1 _ _ x0
      have y1 : Boxed W1 _ _ _ := k1 _ _ x1
      have yv : Boxed W1 _ _ _ := k1 _ _ xv
      have z0 := k1 _ _ bX
      have ho1 := ho.alloc (.cells #[.int .i64 ((x.1 : Int) + 1), .int .i64 x.2.1, .int .i64 x.2.2] 28)
      rw [hW1] at ho1 ⊢
      have hkf : KeepsFrom w3.heap.size W W1 := by rw [← hW1]; exact (KeepsOthers.alloc _ _).from _
      have hkp : Kp (cells3 w.heap.size) w3.heap.size W W1 := by rw [← hW1]; exact Kp.alloc _ _ hsW
      have hb1 : Below w.heap.size w W1 := hbW.trans (bl1.mono hbW.size)
      have hB1 : w3.heap.size ≤ W1.heap.size := by omega
      have P := Lib.hid (And.intro hkf (And.intro hkp (And.intro hb1 hB1)))
      have XX := Lib.hid (And.intro x0 (And.intro x1 xv))
      clear hkf hkp hb1 hB1 x0 x1 xv c0 c1 c2 f0 f1 f2 hW1 k1 n1 bl1 bX ho
      have yc0 := y0.cell
      have yf0 := y0.frozen
      have yc1 := y1.cell
      have yf1 := y1.frozen
      have yc2 := yv.cell
      have yf2 := yv.frozen
      obtain ⟨c0, c1, c2, f0, f1, f2⟩ := row3 z0
      have Y := Lib.hid (And.intro y0 (And.intro y1 (And.intro yv ho1)))
      clear y0 y1 yv z0 ho1
      cases hiv : inv x
      · by_cases h200 : pre.length = 200
        · have d200 : decide ((pre.length : Int) = 200) = true := decide_eq_true (by omega)
          have e200 : ((pre.length : Int) == 200) = true := beq_iff_eq.2 (by omega)
          gi_wp2
          obtain ⟨y0, y1, yv, ho1⟩ := Y.out
          obtain ⟨hkf, hkp, hb1, hB1⟩ := P.out
          refine ⟨hkf.trans (((KeepsOthers.setCell _ _ _).trans (KeepsOthers.setCell _ _ _)).from _), rfl, ⟨pre, x, 14, rfl, ⟨hp, hpl⟩, .inr ⟨hiv, h200, rfl⟩, (y0.set _).other (by omega) _, (y1.other (by omega) _).set _⟩, ?_, by simpa [World.setCell] using hB1⟩
          exact (hb1.setCell (p := ⟨w.heap.size, 0, none⟩) (Nat.le_refl _) _).setCell (p := ⟨w.heap.size + 1, 0, none⟩) (Nat.le_succ _) _
        · have d200 : decide ((pre.length : Int) = 200) = false := decide_eq_false (by omega)
          have e200 : ((pre.length : Int) == 200) = false := beq_eq_false_iff_ne.2 (by omega)
          gi_wp2_with (gi_at_builtin; refine wpListIn_append_own _ rfl _ _ 43 rfl w3.heap.size 3 i0 (.int .i64 0) 1 8 Tryd.underlying43 hi hz0 hz1 hz2 rfl (by decide) _ _ _ rfl (Y.out.2.2.2.alloc _) ⟨W.heap.size + 1, 0, none⟩ 1 1 [.int .i64 x.2.2] rfl rfl (by rw [← s1]; exact cell_one_new _ _ _) (by simp [Value.oneCell']) (by unfold maxLen; omega) (by omega) (by have := P.out.2.2.2; simp; omega) ?_; intro v' w5 hown' hgrow _; obtain ⟨g', cap', rfl⟩ := ownsRow_succ hown'; obtain ⟨hv1, hv2, hr2, hk2, hf2⟩ := appended2 Y.out.2.2.1 (by have := hsz; omega) Y.out.2.2.2 P.out.2.2.2 hown' hgrow; have hc1 := hv1.cell; have hf1 := hv1.frozen; have Q := Lib.hid (And.intro hv2 (And.intro hr2 (And.intro hk2 hf2))); clear hv2 hr2 hk2 hf2 hown' hgrow hv1)
          obtain ⟨y0, y1, yv, ho1⟩ := Y.out
          obtain ⟨hkf, hkp, hb1, hB1⟩ := P.out
          obtain ⟨hv2, hr2, hk2, hf2⟩ := Q.out
          refine ⟨hkf.trans (hk2.from _), hkp.trans (Kp.of_frm hk2 hf2 (by rintro k rfl; unfold cells3; omega)), ⟨fun r h => ?_, by simp; omega⟩, (hf2.block _ (by omega) (by omega)).trans y0, (hf2.block _ (by omega) (by omega)).trans y1, ⟨_, hv2, ?_⟩, hb1.trans (hf2.below (by omega) (by omega)), Nat.le_trans hB1 hf2.size⟩
          · rcases List.mem_append.1 h with h | h
            · exact hp r h
            · obtain rfl := List.mem_singleton.1 h
              exact hiv
          · simpa [cps] using hr2
      · gi_wp2
        obtain ⟨y0, y1, yv, ho1⟩ := Y.out
        obtain ⟨hkf, hkp, hb1, hB1⟩ := P.out
        refine ⟨hkf.trans (((KeepsOthers.setCell _ _ _).trans (KeepsOthers.setCell _ _ _)).from _), rfl, ⟨pre, x, 3, rfl, ⟨hp, hpl⟩, .inl ⟨hiv, rfl⟩, (y0.set _).other (by omega) _, (y1.other (by omega) _).set _⟩, ?_, by simpa [World.setCell] using hB1⟩
        exact (hb1.setCell (p := ⟨w.heap.size, 0, none⟩) (Nat.le_refl _) _).setCell (p := ⟨w.heap.size + 1, 0, none⟩) (Nat.le_succ _) _
    case done =>
      rintro D ys W hD rfl ⟨⟨hp, hpl⟩, x0, x1, ⟨v, xv, ho⟩, hbW, hsW⟩ hDk
      obtain ⟨A1, n1, rfl⟩ := own_slice ho
      have xc0 := x0.cell
      have xf0 := x0.frozen
      have xc1 := x1.cell
      have xf1 := x1.frozen
      have xc2 := xv.cell
      have xf2 := xv.frozen
      gi_wp2
      have z0 := (x0.set (.slice A1 (spanL a0 (a - 1).toNat b).length n1)).other (show w.heap.size ≠ w.heap.size + 1 by omega) (.int .i64 0)
      have z1 := (x1.other (show w.heap.size + 1 ≠ w.heap.size by omega) (.slice A1 (spanL a0 (a - 1).toNat b).length n1)).set (.int .i64 0)
      have hbF : Below w.heap.size w ((W.setCell ⟨w.heap.size, 0, none⟩ (.slice A1 (spanL a0 (a - 1).toNat b).length n1)).setCell ⟨w.heap.size + 1, 0, none⟩ (.int .i64 0)) :=
        (hbW.setCell (p := ⟨w.heap.size, 0, none⟩) (Nat.le_refl _) _).setCell (p := ⟨w.heap.size + 1, 0, none⟩) (Nat.le_succ _) _
      have hDF := hDk
      rw [← Below.heap_setCell W ⟨w.heap.size, 0, none⟩ (.slice A1 (spanL a0 (a - 1).toNat b).length n1) D (by show D ≠ w.heap.size; omega), ← Below.heap_setCell _ ⟨w.heap.size + 1, 0, none⟩ (.int .i64 0) D (by show D ≠ w.heap.size + 1; omega)] at hDF
      have hoF := (ho.kept (grownBy_setCell' W w.heap.size (.slice A1 (spanL a0 (a - 1).toNat b).length n1)) (.inr fun e' => by have := (ho.lt _ e').1; omega))
      replace hoF := hoF.kept (grownBy_setCell' _ (w.heap.size + 1) (.int .i64 0)) (.inr fun e' => by have := (ho.lt _ e').1; omega)
      rw [show (a - 1).toNat = a.toNat - 1 by omega] at z0 z1 hbF hDF hoF hp hpl hr
      generalize (W.setCell ⟨w.heap.size, 0, none⟩ (.slice A1 (spanL a0 (a.toNat - 1) b).length n1)).setCell ⟨w.heap.size + 1, 0, none⟩ (.int .i64 0) = WF at z0 z1 hbF hDF hoF ⊢
      refine ⟨by simp, .inl ⟨_, _, rfl, run_takeDeferred hDF, ?_⟩⟩
      replace z0 := z0.kept (grownBy_putObj' WF D (.deferred none)) (fun e => by cases e; omega)
      replace z1 := z1.kept (grownBy_putObj' WF D (.deferred none)) (fun e => by cases e; omega)
      have hoG := ownsRow_putObj hoF (.deferred none) hDF rfl
      have hcr := codes_run (spanL a0 (a.toNat - 1) b) [] [] hp (by simpa using hpl)
      rw [List.append_nil, List.nil_append] at hcr
      simp only [codesL] at hcr
      rw [hcr] at hr
      cases hr
      refine ⟨.tuple #[.slice A1 (spanL a0 (a.toNat - 1) b).length n1, .int .i64 0], ?_, _, rfl, ?_, ?_⟩
      · simp [results, Tryd.f42, go_sem, z0.cell, z1.cell]
      · refine Kd.R_of_own (own_weaken (?_ : World.ownsRow _ w3.heap.size _ _ _ _ _) (by omega)) (fun _ _ => trivial)
        rw [show (cps (spanL a0 (a.toNat - 1) b)).length = (spanL a0 (a.toNat - 1) b).length by simp [cps]]
        exact hoG
      · exact hbF.grown (grownBy_putObj' WF D (.deferred none)) (by have := hbF.size; omega) (fun k e => by cases e; omega)
    case stop =>
      rintro D c pre W hD hpre ⟨rfl, ⟨pre', r, e, rfl, ⟨hp, hpl⟩, he, x0, x1⟩, hbW, hsW⟩ hDk
      gi_wp2
      refine ⟨by simp, .inl ⟨_, _, rfl, run_takeDeferred hDk, ?_⟩⟩
      have z0 := x0.kept (grownBy_putObj' W D (.deferred none)) (fun e => by cases e; omega)
      have z1 := x1.kept (grownBy_putObj' W D (.deferred none)) (fun e => by cases e; omega)
      obtain ⟨t, ht⟩ := hpre
      have hr3 : codesL [] (spanL a0 (a - 1).toNat b) = ([], e) := by
        rw [← ht, List.append_assoc, codes_run pre' _ [] hp (by simpa using hpl)]
        simp only [List.cons_append, List.nil_append, codesL]
        rcases he with ⟨h1, rfl⟩ | ⟨h1, h2, rfl⟩
        · rw [if_pos h1]
        · rw [if_neg (by rw [h1]; decide), if_pos (by simpa [cps] using h2)]
      rw [hr3] at hr
      cases hr
      refine ⟨.tuple #[.slice none 0 0, .int .i64 r2], ?_, .slice none 0 0, rfl, Kd.R_nil _ _ _ _ _, ?_⟩
      · simp [results, Tryd.f42, go_sem, z0.cell, z1.cell]
      · exact hbW.grown (grownBy_putObj' W D (.deferred none)) (by omega) (fun k e => by cases e; omega)
end Go.Proofs.YtlmmhlabacghnaaDoor.PR
