/- runes.List: all runes of a text, in new memory: its walk over runes.each. -/
import Derived.Test.YtlmmhlabacghnaaDoorEach
namespace Go.Proofs.YtlmmhlabacghnaaDoor.PR
open Go.RowKit Go.Proofs.YtlmmhlabacghnaaDoorW.PrintWords Go.Proofs.YtlmmhlabacghnaaDoorW.PrintLast Go.Proofs.YtlmmhlabacghnaaDoorW.PrintMore Go.Proofs.YtlmmhlabacghnaaDoor.RuneMath
set_option linter.unusedVariables false
set_option linter.unusedSimpArgs false

/-- A rune as the program's own record. -/
def toS (r : R3) : S28 := ⟨r.1, r.2.1, r.2.2⟩
def runes_List.f (a0 : ByteArray) : Option (List S28) := if a0.size ≤ 5864062014804 then some ((rs a0).map toS) else none

theorem scan_length (s : ByteArray) : ∀ f p, (scan s f p).length ≤ f
  | 0, _ => Nat.le_refl _
  | f + 1, p => by
    simp only [scan]
    split
    · have := scan_length s f (p + (Utf8.decode s p).2)
      simp
      omega
    · simp
theorem rs_length (s : ByteArray) : (rs s).length ≤ s.size := scan_length s _ _

theorem hcf (f : FuncId) {fn : Func} (hf : Tryd.prog.funcs[f]? = some fn) (hname : (fn.name == "runtime.NumGoroutine") = false) (hb : fn.body.isSome = true) (args : Array Value) (w : World) : (callFunc f args).run Tryd.prog w = .ok (.enter f args) w := enters_ hf hname hb args w

/-- What List's function value holds: the variable it captured, and the runes so far in a row of the call's own. -/
def ListInv (base cb B : Nat) (told : List R3) (w : World) : Prop :=
  ∃ v, w.heap[cb]? = some (.cells #[v] 39 (0, 0)) ∧ Kd.R k28 28 w base (fun k => B ≤ k) v (told.map toS)

set_option maxHeartbeats 1000000 in
set_option maxRecDepth 100000 in
theorem list_fn (r : R3) (told : List R3) (base cb B : Nat) (w : World) (hb : base ≤ cb) (hcb : cb < B) (hB : B ≤ w.heap.size) (hn : told.length < 5864062014804) (hin : ListInv base cb B told w) :
    Calls Tryd.prog 56 #[.agg #[.int .i64 r.1, .int .i64 r.2.1, .int .i64 r.2.2], .pointer (some ⟨cb, 0, none⟩)] w fun e w' => e = .returned (.bool true) ∧ ListInv base cb B (told ++ [r]) w' ∧ Frm (fun k => k = cb) B w w' := by
  obtain ⟨v, hv, HO⟩ := hin
  obtain ⟨w1, hw1, g1, g2, g3⟩ : ∃ w1, w.alloc (.cells #[.int .i64 r.1, .int .i64 r.2.1, .int .i64 r.2.2] 28) = w1 ∧ w1.heap[w.heap.size]? = some (.cells #[.int .i64 r.1, .int .i64 r.2.1, .int .i64 r.2.2] 28 (0, 0)) ∧ Below w.heap.size w w1 ∧ w1.heap.size = w.heap.size + 1 :=
    ⟨_, rfl, heap_alloc_new _ _, (Below.refl _ _).alloc (Nat.le_refl _) _, by simp⟩
  have hv1 := (g2.block cb (by omega)).trans hv
  have c0 : (w.alloc (.cells #[.int .i64 r.1, .int .i64 r.2.1, .int .i64 r.2.2] 28)).cell? ⟨cb, 0, none⟩ = some v := by rw [hw1]; exact cell_of_one hv1
  have HO1 := Kd.R_below HO g2
  have P := Lib.hid (And.intro hw1 (And.intro g2 (And.intro g3 hv1)))
  have HN := Lib.hid hn
  have HH := Lib.hid (And.intro hb (And.intro hcb hB))
  have HO' := Lib.hid HO1
  clear hv HO HO1 hw1 g1 g2 g3 hv1 hn hb hcb hB
  go_enter Tryd.func56, Tryd.ntmps56
  go_wp2_with (first | ((with_reducible refine gate_builtin (b := .append) (xs := #[.tmp 4, .tmp 6]) rfl ?_); at_builtin; refine Kd.R_append k28 (w0 := w) (W := w.alloc (.cells #[.int .i64 r.1, .int .i64 r.2.1, .int .i64 r.2.2] 28)) base rfl (.tmp 4) (.tmp 6) 39 28 (.agg #[(.int .i64 0), (.int .i64 0), (.int .i64 0)]) 24 rfl Tryd.underlying39 info28 rfl (by decide) (by omega) v (told.map toS) (toS r) [.int .i64 r.1, .int .i64 r.2.1, .int .i64 r.2.2] (fun k => B ≤ k) (fun _ => False) rfl (by first | (go_simp; done) | (go_simp; rfl)) ?aP (fun _ hk => hk.elim) ?aF ?aO ?aB ?aS ?aL ?_))
  case aP => exact k28_mkM _ _ _ (toS r)
  case aF => intro k hk; have := HH.out; simp at hk; omega
  case aO => have := P.out.1; rw [this]; exact HO'.out
  case aB => exact ((Below.refl _ _).alloc (by have := HH.out; omega) _)
  case aS => have := HH.out; simp; omega
  case aL => have := HN.out; simp; omega
  intro v1 w2 hR hbel hgr hown
  obtain ⟨A1, n1, he⟩ := Kd.R_slice hR
  rw [show (told.map toS ++ [toS r]).length = told.length + 1 by simp] at he
  rw [he] at hR hown
  rw [he]
  obtain ⟨hw1, g2, g3, hv1⟩ := P.out
  obtain ⟨hb, hcb, hB⟩ := HH.out
  rw [hw1] at hgr
  have hne : ¬ some cb = v.ownBlock := by
    intro e
    have := HO'.out.1 cb e.symm
    omega
  have hv2 : w2.heap[cb]? = some (.cells #[v] 39 (0, 0)) := (hgr.block cb (by omega) hne).trans hv1
  have c2 := cell_of_one hv2
  have f2 := free_of_one hv2
  have hR2 := Kd.R_far (p := ⟨cb, 0, none⟩) hR (fun k hk => by show k ≠ cb; have hk' : B ≤ k := hk; omega) (.slice A1 (told.length + 1) n1)
  have hblk := one_setCell (u := .slice A1 (told.length + 1) n1) hv2
  have hfr : Frm (fun k => k = cb) B w (w2.setCell ⟨cb, 0, none⟩ (.slice A1 (told.length + 1) n1)) := by
    refine ⟨hgr.os.trans g2.os, hgr.tape.trans g2.tape, hgr.output.trans g2.output, ?_, fun k hk hkc => ?_⟩
    · have := hgr.size
      have := g2.size
      simp [World.setCell]
      omega
    · rw [Below.heap_setCell _ _ _ _ hkc, hgr.block k (by omega) ?_, g2.block k (by omega)]
      intro e
      have := HO'.out.1 k e.symm
      omega
  have Q := Lib.hid (And.intro hR2 (And.intro hblk hfr))
  clear hR hbel hgr hown hw1 g2 g3 hv1 hne hv2 hR2 hblk hfr c0 he
  go_wp2
  go_ret
  obtain ⟨hR2, hblk, hfr⟩ := Q.out
  exact ⟨rfl, ⟨_, hblk, by rw [List.map_append]; exact hR2⟩, hfr⟩

set_option maxHeartbeats 1000000 in
set_option maxRecDepth 100000 in
theorem runes_List.calls (a0 : ByteArray) (r : List S28) (w : World) (h : runes_List.f a0 = some r) :
    Calls Tryd.prog 28 #[.string a0] w fun e w' => ∃ v0_ : Value, e = .returned (v0_) ∧ Kd.R k28 28 w' w.heap.size (fun _ => True) v0_ r ∧ Below w.heap.size w w' := by
  unfold runes_List.f at h
  split at h
  · rename_i hs
    obtain rfl := Option.some.inj h
    clear h
    have hl := rs_length a0
    have hgo : go (fun _ _ => true) [] (rs a0) = rs a0 := by rw [go_all]; rfl
    have HG := Lib.hid hgo
    have HS := Lib.hid hs
    have HL := Lib.hid hl
    clear hgo hs hl
    go_enter Tryd.func28, Tryd.ntmps28
    go_wp2_with fail
    refine (each_any a0 (by have := HS.out; omega) 56 #[.pointer (some ⟨w.heap.size, 0, none⟩)] (hcf _ Tryd.func56 (by kernel_rfl) (by kernel_rfl)) (w.alloc (.cells #[.slice none 0 0] 39)) (ListInv w.heap.size w.heap.size (w.heap.size + 3)) (fun _ _ => true) (fun k => k = w.heap.size) ?_ ?_ ?_ ?_).mono ?_
    · intro k hk
      have hk' : k = w.heap.size := hk
      simp
      omega
    · rintro told w1 w2 ⟨v, hv, hR⟩ hsz hst
      have hlt : w.heap.size < w1.heap.size := (Array.getElem?_eq_some_iff.1 hv).1
      refine ⟨v, (hst _ hlt (by simp) (by simp; omega)).trans hv, Kd.R_step hR fun k hk hks => hst k hks ?_ ?_⟩
      · have hk' : w.heap.size + 3 ≤ k := hk
        simp
        omega
      · have hk' : w.heap.size + 3 ≤ k := hk
        simp
        omega
    · exact ⟨_, heap_alloc_new _ _, Kd.R_nil _ _ _ _ _⟩
    · rintro told x w1 ⟨rest, hrest⟩ hin hsz
      have hlen : told.length < 5864062014804 := by
        have h1 := congrArg List.length hrest
        simp at h1
        have := HL.out
        have := HS.out
        omega
      have hsz' : w.heap.size + 3 ≤ w1.heap.size := by simpa using hsz
      refine (list_fn x told w.heap.size w.heap.size (w.heap.size + 3) w1 (Nat.le_refl _) (by omega) hsz' hlen hin).mono ?_
      rintro e w2 ⟨rfl, hin2, hfr⟩
      exact ⟨rfl, hin2, by simpa using hfr⟩
    · rintro e w1 ⟨rfl, hin, hfr⟩
      rw [HG.out] at hin
      obtain ⟨v, hv, hR⟩ := hin
      have c0 := cell_of_one hv
      have hbel : Below w.heap.size w w1 := ((Below.refl _ w).alloc (Nat.le_refl _) _).trans (hfr.below (by simp) (fun k hk e => by omega))
      have Q := Lib.hid (And.intro hR hbel)
      clear hv hR hfr hbel
      go_wp2
      go_ret
      obtain ⟨hR, hbel⟩ := Q.out
      exact ⟨_, rfl, Kd.R_mono hR (fun _ _ => trivial), hbel⟩
  · cases h
end Go.Proofs.YtlmmhlabacghnaaDoor.PR
