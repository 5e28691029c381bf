import Derived.Test.YtaoippnipcchmaaGreatDoorMH
import Derived.Test.YtaoippnipcchmaaGreatDoorMD
import Derived.Test.YtaoippnipcchmaaGreatDoorMB
/- TopCode: words.read, words.Parse of a decimal numeral. -/
namespace Go.Proofs.YtaoippnipcchmaaGreatDoor.PT
open Go.RowKit Go.Proofs.YtaoippnipcchmaaGreatDoorW.PrintWords Go.Proofs.YtaoippnipcchmaaGreatDoorW.PrintLast Go.Proofs.YtaoippnipcchmaaGreatDoorW.PrintMore
open Go.Proofs.YtaoippnipcchmaaGreatDoor.TP
set_option linter.unusedVariables false
set_option linter.unusedSimpArgs false

set_option maxHeartbeats 4000000 in
set_option maxRecDepth 100000 in
theorem read_door (p q : Addr) (w : World) : CallsD Tryz.prog 121 #[.pointer (some p), .pointer (some q)] .returning w fun e u' w' => e = .returned (.tuple #[]) ∧ u' = .returning ∧ w' = w := by
  refine callsD_of_wpS Tryz.func121 rfl fun c₀ cs hu => ?_
  apply wpS_seq
  apply wpS_region
  simp [wpOpsS, go_sem, recoverD, hu, Tryz.ntmps121, Exit.thenS]
  refine wpS_of_wp ?_
  go_wp2_with fail
  cases c₀
  simp_all [bodyPostS, results, Tryz.results121]
theorem run_loadVar_one (w : World) (g : Nat) (ty : TypeId) (v : Value) (d : TypeDesc) (hc : w.cell? ⟨g, 0, none⟩ = some v) (hu : Tryz.prog.underlying ty = some d) (hd : (match d with | .struct _ | .array _ _ => true | _ => false) = false) :
    (loadVar ty ⟨g, 0, none⟩).run Tryz.prog w = .ok v w := by
  have hagg : (isAgg ty).run Tryz.prog w = .ok false w := by
    unfold isAgg
    rw [Sem.run_bind, run_underlying hu w]
    cases d <;> simp_all
  simp [loadVar, Sem.run_bind, hagg, go_sem, hc]
/-- Two results of one cell each; one of one cell beside a struct. -/
theorem results_oo {fn : Func} {p p' : Tmp} {ty ty' : TypeId} (h : fn.results = #[.cell p ty, .cell p' ty']) (tmps : Array Value) (w : World) (g g' : Nat) (v v' : Value) (d d' : TypeDesc)
    (hp : tmps.getD p undef = .pointer (some ⟨g, 0, none⟩)) (hc : w.cell? ⟨g, 0, none⟩ = some v) (hu : Tryz.prog.underlying ty = some d) (hd : (match d with | .struct _ | .array _ _ => true | _ => false) = false)
    (hp' : tmps.getD p' undef = .pointer (some ⟨g', 0, none⟩)) (hc' : w.cell? ⟨g', 0, none⟩ = some v') (hu' : Tryz.prog.underlying ty' = some d') (hd' : (match d' with | .struct _ | .array _ _ => true | _ => false) = false) :
    (results fn tmps).run Tryz.prog w = .ok (.tuple #[v, v']) w := by
  have h1 : tmps[p]?.getD undef = .pointer (some ⟨g, 0, none⟩) := by simpa using hp
  have h2 : tmps[p']?.getD undef = .pointer (some ⟨g', 0, none⟩) := by simpa using hp'
  simp [results, h, h1, h2, asAddr, run_loadVar_one w g ty v d hc hu hd, run_loadVar_one w g' ty' v' d' hc' hu' hd']
theorem results_oc {fn : Func} {p p' : Tmp} {ty ty' : TypeId} (h : fn.results = #[.cell p ty, .cell p' ty']) (tmps : Array Value) (w : World) (g g' : Nat) (v v' : Value) (d : TypeDesc)
    (hp : tmps.getD p undef = .pointer (some ⟨g, 0, none⟩)) (hc : w.cell? ⟨g, 0, none⟩ = some v) (hu : Tryz.prog.underlying ty = some d) (hd : (match d with | .struct _ | .array _ _ => true | _ => false) = false)
    (hp' : tmps.getD p' undef = .pointer (some ⟨g', 0, none⟩)) (hrow : (loadVar ty' ⟨g', 0, none⟩).run Tryz.prog w = .ok v' w) :
    (results fn tmps).run Tryz.prog w = .ok (.tuple #[v, v']) w := by
  have h1 : tmps[p]?.getD undef = .pointer (some ⟨g, 0, none⟩) := by simpa using hp
  have h2 : tmps[p']?.getD undef = .pointer (some ⟨g', 0, none⟩) := by simpa using hp'
  simp [results, h, h1, h2, asAddr, run_loadVar_one w g ty v d hc hu hd, hrow]
theorem one_of {w : World} {g : Nat} {x : Value} {t : TypeId} (h : w.heap[g]? = some (.cells #[x] t (0, 0))) : w.cell? ⟨g, 0, none⟩ = some x := (blk_cell h 0).trans rfl
set_option maxHeartbeats 4000000 in
set_option maxRecDepth 100000 in
theorem read_call (t : List UInt8) (ht : ∀ b ∈ t, digitB b.toNat = true) (h0 : t ≠ []) (hl : t.length ≤ 8) (w : World) :
    Calls Tryz.prog 109 #[.string (bs t), .bool false] w fun r w' => r = .returned (.tuple #[.int .i64 (numV t : Nat), .int .i64 0]) ∧ Below w.heap.size w w' := by
  have hmf : ∀ (fn : Fn) (first cap : Array Value) (w : World), (Instr.makeFunc fn first cap).run Tryz.prog w = .ok (.func fn first cap) w := fun _ _ _ _ => rfl
  have hv := numV_lt t ht hl
  have HZ := Lib.hid (fun W => size_call t ht h0 hl W)
  obtain ⟨N, hN⟩ : ∃ N, numV t = N := ⟨_, rfl⟩
  rw [hN] at HZ hv ⊢
  have d1 : decide ((N : Int) > 9223372036854775807) = false := decide_eq_false (by omega)
  have d2 : decide (9223372036854775807 < (N : Int)) = false := decide_eq_false (by omega)
  have hwi : IntKind.i64.wrap (N : Int) = (N : Int) := IntWalk.i64_in _ (by omega)
  clear ht h0 hl hN hv
  obtain ⟨w1, hw1, hb1, hn1, hf1, hs1⟩ : ∃ w1, (w.alloc (.cells #[.int .i64 0] 3)).alloc (.cells #[.int .i64 0] 29) = w1 ∧ Below w.heap.size w w1 ∧ w1.heap[w.heap.size]? = some (.cells #[.int .i64 0] 3 (0, 0)) ∧ w1.heap[w.heap.size + 1]? = some (.cells #[.int .i64 0] 29 (0, 0)) ∧ w1.heap.size = w.heap.size + 2 :=
    ⟨_, rfl, ((Below.refl _ _).alloc (Nat.le_refl _) _).alloc (by simp) _, (Below.heap_alloc _ _ _ (by simp)).trans (heap_alloc_new _ _), by have := heap_alloc_new (w.alloc (.cells #[.int .i64 0] 3)) (.cells #[.int .i64 0] 29); simpa using this, by simp⟩
  go_enter_defers Tryz.func109, Tryz.ntmps109
  go_wp2_with fail
  clear hw1
  refine (HZ.out w1).mono ?_
  rintro r w2 ⟨rfl, hb2⟩
  have N2 := Lib.hid (Bel.blk hb2 hn1)
  have F2 := Lib.hid (Bel.blk hb2 hf1)
  have B2 := Lib.hid (hb1.trans (hb2.mono hb1.size))
  have n0 := one_of N2.out
  have f0 := one_of F2.out
  have z0 := blk_frozen N2.out 0
  have z1 := blk_frozen F2.out 0
  clear hb1 hn1 hf1 hs1 hb2
  go_wp2_with fail
  have hn3 := blk_far (p := ⟨w.heap.size + 1, 0, none⟩) (blk_put (cs := #[.int .i64 (N : Int)]) (blk_put (cs := #[.int .i64 0]) N2.out 0 (.int .i64 (N : Int)) rfl) 0 (.int .i64 (N : Int)) rfl) (by show w.heap.size ≠ w.heap.size + 1; omega) (.int .i64 0)
  have hf3 := blk_put (cs := #[.int .i64 0]) (blk_far (p := ⟨w.heap.size, 0, none⟩) (blk_far (p := ⟨w.heap.size, 0, none⟩) F2.out (by show w.heap.size + 1 ≠ w.heap.size; omega) (.int .i64 (N : Int))) (by show w.heap.size + 1 ≠ w.heap.size; omega) (.int .i64 (N : Int))) 0 (.int .i64 0) rfl
  have hb3 := ((B2.out.setCell (p := ⟨w.heap.size, 0, none⟩) (Nat.le_refl _) (.int .i64 (N : Int))).setCell (p := ⟨w.heap.size, 0, none⟩) (Nat.le_refl _) (.int .i64 (N : Int))).setCell (p := ⟨w.heap.size + 1, 0, none⟩) (by show w.heap.size ≤ w.heap.size + 1; omega) (.int .i64 0)
  refine leaves_cons (f := 121) (args := #[.pointer (some ⟨w.heap.size, 0, none⟩), .pointer (some ⟨w.heap.size + 1, 0, none⟩)]) (by simp) (by simp [go_sem]) ?_
  refine (read_door _ _ _).mono ?_
  rintro e' u' w'' ⟨rfl, rfl, rfl⟩
  exact ⟨_, results_oo rfl _ _ w.heap.size (w.heap.size + 1) _ _ _ _ rfl (one_of hn3) Tryz.underlying3 rfl rfl (one_of hf3) Tryz.underlying29 rfl, rfl, hb3⟩
theorem parse_num (t : List UInt8) (ht : ∀ b ∈ t, digitB b.toNat = true) (h0 : t ≠ []) (hl : t.length ≤ 8) (w : World) :
    Calls Tryz.prog 90 #[.string (bs t)] w fun r w' => r = .returned (.tuple #[.int .i64 (numV t : Nat), .int .i64 0]) ∧ Below w.heap.size w w' := by
  have HZ := Lib.hid (fun W => read_call t ht h0 hl W)
  clear ht h0 hl
  go_enter Tryz.func90, Tryz.ntmps90
  go_wp2_with fail
  refine (HZ.out w).mono ?_
  rintro r w2 ⟨rfl, hb2⟩
  have B2 := Lib.hid hb2
  clear hb2
  go_wp2_with fail
  go_ret2
  exact ⟨rfl, B2.out⟩
end Go.Proofs.YtaoippnipcchmaaGreatDoor.PT
/- TopCode: the scanner's number; the first rune of a text. -/
namespace Go.Proofs.YtaoippnipcchmaaGreatDoor.PT
open Go.RowKit Go.Proofs.YtaoippnipcchmaaGreatDoorW.PrintWords Go.Proofs.YtaoippnipcchmaaGreatDoorW.PrintLast Go.Proofs.YtaoippnipcchmaaGreatDoorW.PrintMore
open Go.Proofs.YtaoippnipcchmaaGreatDoor.TP
set_option linter.unusedVariables false
set_option linter.unusedSimpArgs false

set_option maxHeartbeats 4000000 in
set_option maxRecDepth 100000 in
theorem number_call {w0 w : World} {s at_ : Nat} {src : ByteArray} {T : List Tk} {v : Value} (h : Sc w0 s src at_ T v w) (hsz : src.size ≤ 65000) (hat : at_ ≤ src.size) (hl : T.length < 60000)
    (t L : List UInt8) (ht : ∀ b ∈ t, digitB b.toNat = true) (h0 : t ≠ []) (h8 : t.length ≤ 8) (hL : src.extract at_ src.size = bs (t ++ L)) (hasc : ∀ b ∈ t ++ L, b.toNat < 128) (hstop : ∀ b, L.head? = some b → partB b.toNat = false) :
    Calls Tryz.prog 52 #[.pointer (some ⟨s, 0, none⟩)] w fun r w' => r = .returned (.tuple #[]) ∧ ∃ v', Sc w0 s src (at_ + t.length) (T ++ [⟨3, bs t, (numV t : Nat), at_⟩]) v' w' ∧ Adv s v v' w w' := by
  have hpart : ∀ b ∈ t, partB b.toNat = true := fun b hb => by unfold partB; rw [ht b hb, Bool.or_true]
  have hrun := run_call h (by omega) hat 86 (hcf_of _ Tryz.func86 (by kernel_rfl) (by kernel_rfl)) partB part_call t L hL hasc hpart hstop
  have hel := ext_size hat hL
  have hsm := slice_mid hat hL
  have HN := Lib.hid (fun W => parse_num t ht h0 h8 W)
  have H := Lib.hid h
  have hatn : at_ + t.length ≤ 65000 := by rw [List.length_append] at hel; omega
  have HT := Lib.hid (And.intro hl hatn)
  have hwr : IntKind.i64.wrap ((at_ : Int) + (t.length : Int)) = (at_ : Int) + (t.length : Int) := IntWalk.i64_in _ (by omega)
  have b1 : 0 ≤ (at_ : Int) + (t.length : Int) := by omega
  have b2 : (at_ : Int) ≤ (at_ : Int) + (t.length : Int) := by omega
  have b3 : (at_ : Int) + (t.length : Int) ≤ (src.size : Int) := by rw [List.length_append] at hel; omega
  have HR := Lib.hid hrun
  obtain ⟨n, hn⟩ : ∃ n, t.length = n := ⟨_, rfl⟩
  obtain ⟨V, hV⟩ : ∃ V, numV t = V := ⟨_, rfl⟩
  rw [hV] at HN ⊢
  rw [hn] at hsm hwr b1 b2 b3 HR HT ⊢
  have hmx : Tryz.prog.follows .mixedOrders = true := by kernel_rfl
  clear h hrun hl hsz hat hel hatn ht h0 h8 hL hasc hstop hpart hn hV
  go_enter Tryz.func52, Tryz.ntmps52
  go_wp2_with fail
  refine HR.out.mono ?_
  rintro r w1 ⟨rfl, hb1⟩
  have H1 := Lib.hid (H.out.below hb1)
  have B1 := Lib.hid hb1
  obtain ⟨s0, s1, s2⟩ := three_of H1.out.bs
  clear hb1 HR
  go_wp2_with fail
  go_still_tail 14, (by kernel_rfl)
  change wpList _ _ _ _ _ w1.drew
  go_wp2_with fail
  refine (HN.out w1.drew).mono ?_
  rintro r w2 ⟨rfl, hb2⟩
  have hb12 := (below_drew1 (Below.refl w1.heap.size w1)).trans hb2
  have H2 := Lib.hid (H1.out.below hb12)
  have B2 := Lib.hid (B1.out.trans (hb12.mono B1.out.size))
  clear hb2 hb12 s0 s1 s2
  go_wp2_with fail
  refine (sadd_call H2.out HT.out.1 3 (bs t) V 0 n (by have := HT.out.2; omega)).mono ?_
  rintro r w3 ⟨rfl, v3, hK3, hA3⟩
  have K3 := Lib.hid (And.intro hK3 ((Adv.of_below B2.out).trans hA3))
  clear hK3 hA3
  go_wp2_with fail
  go_end0
  exact ⟨rfl, v3, K3.out.1, K3.out.2⟩
set_option maxHeartbeats 4000000 in
set_option maxRecDepth 100000 in
theorem rune_one (c : UInt8) (M : List UInt8) (hc : c.toNat < 128) (w : World) :
    Calls Tryz.prog 46 #[.string (bs (c :: M))] w fun r w' => r = .returned (.tuple #[.int .i32 c.toNat, .int .i64 1]) ∧ Below w.heap.size w w' := by
  obtain ⟨R, hR⟩ : ∃ R, bs (c :: M) = R := ⟨_, rfl⟩
  obtain ⟨k, hk⟩ : ∃ k, c.toNat = k := ⟨_, rfl⟩
  have h1 : (R.toList = []) = False := eq_false (by rw [← hR, toList_data]; exact List.cons_ne_nil _ _)
  have h2 : R.toList.isEmpty = false := by rw [← hR, toList_data]; rfl
  have h3 : (0 < R.size) = True := eq_true (by rw [← hR, bs_size]; simp)
  have h4 : ∀ h : 0 < R.size, (R[0]'h).toNat = k := by subst hR; intro h; exact hk
  rw [hk] at hc ⊢
  have h5 : ((k : Int) < 128) = True := eq_true (by omega)
  have h6 : (128 ≤ (k : Int)) = False := eq_false (by omega)
  have h7 : IntKind.i32.wrap (k : Int) = (k : Int) := by simp only [IntKind.wrap, IntKind.bits, IntKind.signed]; simp; omega
  rw [hR]
  clear hR hk hc
  go_enter Tryz.func46, Tryz.ntmps46
  go_wp2_with fail
  go_ret2
  exact ⟨rfl, Below.refl _ _⟩
set_option maxHeartbeats 4000000 in
set_option maxRecDepth 100000 in
theorem rune_nil (w : World) : Calls Tryz.prog 46 #[.string (bs [])] w fun r w' => r = .returned (.tuple #[.int .i32 65533, .int .i64 0]) ∧ Below w.heap.size w w' := by
  have hs : (bs []).size = 0 := rfl
  have ht : (bs []).toList = [] := by rw [toList_data]; rfl
  have he : (bs []).toList.isEmpty = true := by rw [ht]; rfl
  have hsl : Calls Tryz.prog 83 #[.string (bs [])] w fun r w' => r = .returned (.tuple #[.int .i32 65533, .int .i64 0]) ∧ Below w.heap.size w w' := by
    go_enter Tryz.func83, Tryz.ntmps83
    go_wp2_with fail
    go_ret2
    exact ⟨rfl, Below.refl _ _⟩
  have HS := Lib.hid hsl
  clear hsl
  go_enter Tryz.func46, Tryz.ntmps46
  go_wp2_with fail
  refine HS.out.mono ?_
  rintro r w2 ⟨rfl, hb⟩
  have B := Lib.hid hb
  clear hb
  go_wp2_with fail
  go_ret2
  exact ⟨rfl, B.out⟩
end Go.Proofs.YtaoippnipcchmaaGreatDoor.PT
/- TopCode: the scanner's next. -/
namespace Go.Proofs.YtaoippnipcchmaaGreatDoor.PT
open Go.RowKit Go.Proofs.YtaoippnipcchmaaGreatDoorW.PrintWords Go.Proofs.YtaoippnipcchmaaGreatDoorW.PrintLast Go.Proofs.YtaoippnipcchmaaGreatDoorW.PrintMore
open Go.Proofs.YtaoippnipcchmaaGreatDoor.TP
set_option linter.unusedVariables false
set_option linter.unusedSimpArgs false

theorem ext_drop {src : ByteArray} {at_ : Nat} {p L : List UInt8} (h : at_ ≤ src.size) (hL : src.extract at_ src.size = bs (p ++ L)) : src.extract (at_ + p.length) src.size = bs L := by
  have hl := ext_size h hL
  rw [List.length_append] at hl
  have e : src.extract (at_ + p.length) src.size = (src.extract at_ src.size).extract p.length (src.extract at_ src.size).size := by
    rw [ByteArray.extract_extract]
    congr 1
    rw [ByteArray.size_extract]
    omega
  rw [e, hL]
  apply ByteArray.ext
  rw [ByteArray.data_extract]
  apply Array.ext'
  simp [bs]
  refine List.take_of_length_le ?_
  show L.length ≤ (p ++ L).length - p.length
  rw [List.length_append]
  omega
/-- What a call of the scanner comes to. -/
def ScRes (w0 : World) (s : Nat) (src : ByteArray) (at_ : Nat) (T : List Tk) (v : Value) (w : World) (r : Ending) (w' : World) : Prop := r = .returned (.tuple #[]) ∧ ∃ v', Sc w0 s src at_ T v' w' ∧ Adv s v v' w w'
set_option maxHeartbeats 8000000 in
set_option maxRecDepth 100000 in
theorem next_tok {w0 w : World} {s at_ : Nat} {src : ByteArray} {T : List Tk} {v : Value} (h : Sc w0 s src at_ T v w) (hT : Tabs w0) (hsz : src.size ≤ 65000) (hat : at_ ≤ src.size)
    (p M : List UInt8) (c : UInt8) (hL : src.extract at_ src.size = bs (p ++ c :: M)) (hasc : ∀ b ∈ p ++ c :: M, b.toNat < 128) (hp : ∀ b ∈ p, blankB b.toNat = true) (hc : blankB c.toNat = false) (hpre : strings_HasPrefix.f (bs (c :: M)) (bs [45, 45]) = some false) (h34 : c.toNat ≠ 34 ∧ c.toNat ≠ 39)
    (at2 : Nat) (T2 : List Tk)
    (hk : (letterB c.toNat = true ∧ ∀ W, Sc w0 s src (at_ + p.length) T v W → Tabs W → Calls Tryz.prog 50 #[.pointer (some ⟨s, 0, none⟩)] W (ScRes w0 s src at2 T2 v W)) ∨ (letterB c.toNat = false ∧ digitB c.toNat = true ∧ ∀ W, Sc w0 s src (at_ + p.length) T v W → Tabs W → Calls Tryz.prog 52 #[.pointer (some ⟨s, 0, none⟩)] W (ScRes w0 s src at2 T2 v W)) ∨ (letterB c.toNat = false ∧ digitB c.toNat = false ∧ ∀ W, Sc w0 s src (at_ + p.length) T v W → Tabs W → Calls Tryz.prog 54 #[.pointer (some ⟨s, 0, none⟩)] W (ScRes w0 s src at2 T2 v W))) :
    Calls Tryz.prog 29 #[.pointer (some ⟨s, 0, none⟩)] w fun r w' => r = .returned (.bool true) ∧ ∃ v', Sc w0 s src at2 T2 v' w' ∧ Adv s v v' w w' := by
  have hrun := run_call (h.below (Below.refl _ _).drew) (by omega) hat 45 (hcf_of _ Tryz.func45 (by kernel_rfl) (by kernel_rfl)) blankB blank_call p (c :: M) hL hasc hp (fun b hb => by have e : c = b := Option.some.inj hb; rw [← e]; exact hc)
  have hel := ext_size hat hL
  rw [List.length_append, List.length_cons] at hel
  have hdr := ext_drop hat hL
  have hc8 : c.toNat < 128 := hasc c (by simp)
  obtain ⟨n, hn⟩ : ∃ n, p.length = n := ⟨_, rfl⟩
  rw [hn] at hrun hel hdr hk
  have HSL : ∀ W, (Instr.slice 9 (.string src) (some (.int .i64 ((at_ : Int) + (n : Int)))) none none).run Tryz.prog W = .ok (.string (bs (c :: M))) W := fun W => by
    have := slice_from (src := src) (at_ := at_ + n) (w := W) (by omega)
    rw [hdr, Int.natCast_add] at this
    exact this
  have hwr : IntKind.i64.wrap ((at_ : Int) + (n : Int)) = (at_ : Int) + (n : Int) := IntWalk.i64_in _ (by omega)
  have HRN := Lib.hid (fun W => rune_one c M hc8 W)
  have HPR := Lib.hid (fun W => strings_HasPrefix.calls (bs (c :: M)) (bs [45, 45]) false W hpre)
  obtain ⟨R, hR⟩ : ∃ R, bs (c :: M) = R := ⟨_, rfl⟩
  have hne1 : (R.toList = []) = False := eq_false (by rw [← hR, toList_data]; exact List.cons_ne_nil _ _)
  have hne2 : R.toList.isEmpty = false := by rw [← hR, toList_data]; rfl
  have hne3 : (R.toList == []) = false := by rw [← hR, toList_data]; rfl
  rw [hR] at HSL HRN HPR
  obtain ⟨k, hkk⟩ : ∃ k, c.toNat = k := ⟨_, rfl⟩
  rw [hkk] at HRN hk h34 hc8
  have HLE := Lib.hid (fun W => lex_letter.calls 6 (k : Int) (letterB k) W (letter_f ⟨k, hc8⟩))
  have HDI := Lib.hid (fun W => lex_digit.calls (k : Int) (digitB k) W (digit_f ⟨k, hc8⟩))
  have q34 : ((k : Int) == 34) = false := beq_eq_false_iff_ne.2 (by omega)
  have q39 : ((k : Int) == 39) = false := beq_eq_false_iff_ne.2 (by omega)
  have H := Lib.hid h
  have HT := Lib.hid hT
  have HK := Lib.hid hk
  have HR := Lib.hid hrun
  obtain ⟨s0, s1, s2⟩ := three_of h.bs
  have hmx : Tryz.prog.follows .mixedOrders = true := by kernel_rfl
  clear h hT hsz hat hL hasc hp hc hpre h34 hk hrun hel hdr hc8 hn hR hkk
  go_enter Tryz.func29, Tryz.ntmps29
  go_wp2_with fail
  go_region_with (go_at_call 44; refine HR.out.mono ?_; rintro r w1 ⟨rfl, hb1⟩; have hb01 := (Below.refl w.heap.size w).drew.trans hb1; have H1 := Lib.hid (H.out.below hb01); have B1 := Lib.hid hb01; obtain ⟨t0, t1, t2⟩ := three_of H1.out.bs; have f1 := blk_frozen H1.out.bs 1; clear hb1 hb01)
  all_goals
    obtain ⟨w2, hw2, hS2, hA2⟩ : ∃ w2, w1.setCell ⟨s, 1, none⟩ (.int .i64 ((at_ : Int) + (n : Int))) = w2 ∧ Sc w0 s src (at_ + n) T v w2 ∧ Adv s v v w1 w2 := by
      have hq := H1.out.place (at_ + n)
      rw [Int.natCast_add] at hq
      exact ⟨_, rfl, hq⟩
    rw [hw2]
    have H2 := Lib.hid hS2
    have A2 := Lib.hid ((Adv.of_below B1.out).trans hA2)
    obtain ⟨s0, s1, s2⟩ := three_of H2.out.bs
    rw [Int.natCast_add] at s1
    clear hw2 hS2 hA2 t0 t1 t2 f1
    go_wp2_with fail
    go_still_tail 8, (by kernel_rfl)
    change wpList _ _ _ _ _ w2.drew
    go_wp2_with fail
    refine (HRN.out w2.drew).mono ?_
    rintro r w3 ⟨rfl, hb3⟩
    have hb23 := (Below.refl w2.heap.size w2).drew.trans hb3
    have H3 := Lib.hid (H2.out.below hb23)
    have A3 := Lib.hid (A2.out.trans (Adv.of_below hb23))
    clear hb3 hb23 s0 s1 s2
    go_wp2_with fail
    refine (HPR.out w3).mono ?_
    rintro r w4 ⟨rfl, hd4⟩
    have H4 := Lib.hid (H3.out.below hd4.below)
    have A4 := Lib.hid (A3.out.trans (Adv.of_below hd4.below))
    clear hd4
    go_wp2_with fail
    have hle := HLE.out w4
    rcases HK.out with ⟨hl, hsub⟩ | ⟨hl, hd, hsub⟩ | ⟨hl, hd, hsub⟩
    · rw [hl] at hle
      have HSUB := Lib.hid hsub
      clear hsub hl
      refine hle.mono ?_
      rintro r w5 ⟨rfl, hd5⟩
      have H5 := Lib.hid (H4.out.below hd5.below)
      have A5 := Lib.hid (A4.out.trans (Adv.of_below hd5.below))
      clear hd5 hle
      go_wp2_with fail
      refine (HSUB.out w5 H5.out (HT.out.below H5.out.b0)).mono ?_
      rintro r w6 ⟨rfl, v6, hK6, hA6⟩
      have K6 := Lib.hid (And.intro hK6 (A5.out.trans hA6))
      clear hK6 hA6
      go_wp2_with fail
      go_ret
      exact ⟨rfl, v6, K6.out.1, K6.out.2⟩
    · rw [hl] at hle
      have hdi := fun W => HDI.out W
      rw [hd] at hdi
      have HDD := Lib.hid hdi
      have HSUB := Lib.hid hsub
      clear hsub hl hd hdi
      refine hle.mono ?_
      rintro r w5 ⟨rfl, hd5⟩
      have H5 := Lib.hid (H4.out.below hd5.below)
      have A5 := Lib.hid (A4.out.trans (Adv.of_below hd5.below))
      clear hd5 hle
      go_wp2_with fail
      refine (HDD.out w5).mono ?_
      rintro r w6 ⟨rfl, hd6⟩
      have H6 := Lib.hid (H5.out.below hd6.below)
      have A6 := Lib.hid (A5.out.trans (Adv.of_below hd6.below))
      clear hd6
      go_wp2_with fail
      refine (HSUB.out w6 H6.out (HT.out.below H6.out.b0)).mono ?_
      rintro r w7 ⟨rfl, v7, hK7, hA7⟩
      have K7 := Lib.hid (And.intro hK7 (A6.out.trans hA7))
      clear hK7 hA7
      go_wp2_with fail
      go_ret
      exact ⟨rfl, v7, K7.out.1, K7.out.2⟩
    · rw [hl] at hle
      have hdi := fun W => HDI.out W
      rw [hd] at hdi
      have HDD := Lib.hid hdi
      have HSUB := Lib.hid hsub
      clear hsub hl hd hdi
      refine hle.mono ?_
      rintro r w5 ⟨rfl, hd5⟩
      have H5 := Lib.hid (H4.out.below hd5.below)
      have A5 := Lib.hid (A4.out.trans (Adv.of_below hd5.below))
      clear hd5 hle
      go_wp2_with fail
      refine (HDD.out w5).mono ?_
      rintro r w6 ⟨rfl, hd6⟩
      have H6 := Lib.hid (H5.out.below hd6.below)
      have A6 := Lib.hid (A5.out.trans (Adv.of_below hd6.below))
      clear hd6
      go_wp2_with fail
      refine (HSUB.out w6 H6.out (HT.out.below H6.out.b0)).mono ?_
      rintro r w7 ⟨rfl, v7, hK7, hA7⟩
      have K7 := Lib.hid (And.intro hK7 (A6.out.trans hA7))
      clear hK7 hA7
      go_wp2_with fail
      go_ret
      exact ⟨rfl, v7, K7.out.1, K7.out.2⟩
end Go.Proofs.YtaoippnipcchmaaGreatDoor.PT
/- TopCode: the scanner over tokens in form. -/
namespace Go.Proofs.YtaoippnipcchmaaGreatDoor.PT
open Go.RowKit Go.Proofs.YtaoippnipcchmaaGreatDoorW.PrintWords Go.Proofs.YtaoippnipcchmaaGreatDoorW.PrintLast Go.Proofs.YtaoippnipcchmaaGreatDoorW.PrintMore
open Go.Proofs.YtaoippnipcchmaaGreatDoor.TP
set_option linter.unusedVariables false
set_option linter.unusedSimpArgs false

set_option maxHeartbeats 8000000 in
set_option maxRecDepth 100000 in
theorem next_end {w0 w : World} {s at_ : Nat} {src : ByteArray} {T : List Tk} {v : Value} (h : Sc w0 s src at_ T v w) (hsz : src.size ≤ 65000) (hat : at_ ≤ src.size) (hL : src.extract at_ src.size = bs []) :
    Calls Tryz.prog 29 #[.pointer (some ⟨s, 0, none⟩)] w fun r w' => r = .returned (.bool false) ∧ ∃ v', Sc w0 s src at_ T v' w' ∧ Adv s v v' w w' := by
  have hrun := run_call (h.below (Below.refl _ _).drew) (by omega) hat 45 (hcf_of _ Tryz.func45 (by kernel_rfl) (by kernel_rfl)) blankB blank_call [] [] hL (fun b hb => by simp at hb) (fun b hb => by simp at hb) (fun b hb => by simp at hb)
  have HSL : ∀ W, (Instr.slice 9 (.string src) (some (.int .i64 (at_ : Int))) none none).run Tryz.prog W = .ok (.string (bs [])) W := fun W => by
    have := slice_from (src := src) (at_ := at_) (w := W) hat
    rw [hL] at this
    exact this
  have hwr : IntKind.i64.wrap (at_ : Int) = (at_ : Int) := IntWalk.i64_in _ (by omega)
  obtain ⟨R, hR⟩ : ∃ R, bs [] = R := ⟨_, rfl⟩
  have hne1 : (R.toList = []) = True := eq_true (by rw [← hR, toList_data]; rfl)
  have hne2 : R.toList.isEmpty = true := by rw [← hR, toList_data]; rfl
  have HRN := Lib.hid (fun W => rune_nil W)
  rw [hR] at HSL HRN
  have H := Lib.hid h
  have HR := Lib.hid hrun
  obtain ⟨s0, s1, s2⟩ := three_of h.bs
  have hmx : Tryz.prog.follows .mixedOrders = true := by kernel_rfl
  clear h hsz hat hL hrun hR
  go_enter Tryz.func29, Tryz.ntmps29
  go_wp2_with fail
  go_region_with (go_at_call 44; refine HR.out.mono ?_; rintro r w1 ⟨rfl, hb1⟩; have hb01 := (Below.refl w.heap.size w).drew.trans hb1; have H1 := Lib.hid (H.out.below hb01); have B1 := Lib.hid hb01; obtain ⟨t0, t1, t2⟩ := three_of H1.out.bs; have f1 := blk_frozen H1.out.bs 1; clear hb1 hb01)
  all_goals
    obtain ⟨w2, hw2, hS2, hA2⟩ : ∃ w2, w1.setCell ⟨s, 1, none⟩ (.int .i64 (at_ : Int)) = w2 ∧ Sc w0 s src at_ T v w2 ∧ Adv s v v w1 w2 := ⟨_, rfl, H1.out.place at_⟩
    rw [hw2]
    have H2 := Lib.hid hS2
    have A2 := Lib.hid ((Adv.of_below B1.out).trans hA2)
    obtain ⟨s0, s1, s2⟩ := three_of H2.out.bs
    clear hw2 hS2 hA2 t0 t1 t2 f1
    go_wp2_with fail
    go_still_tail 8, (by kernel_rfl)
    change wpList _ _ _ _ _ w2.drew
    go_wp2_with fail
    refine (HRN.out w2.drew).mono ?_
    rintro r w3 ⟨rfl, hb3⟩
    have hb23 := (Below.refl w2.heap.size w2).drew.trans hb3
    have H3 := Lib.hid (H2.out.below hb23)
    have A3 := Lib.hid (A2.out.trans (Adv.of_below hb23))
    clear hb3 hb23 s0 s1 s2
    go_wp2_with fail
    go_ret
    exact ⟨rfl, v, H3.out, A3.out⟩
/-- A token that the scanner takes, ahead of that text. -/
inductive TokOk : Tok → List UInt8 → Prop
  | num {t : List UInt8} {n : Nat} {rest : List UInt8} (h : ∀ b ∈ t, digitB b.toNat = true) (h0 : t ≠ []) (h8 : t.length ≤ 8) (hn : numV t = n) (hs : ∀ b, rest.head? = some b → partB b.toNat = false) : TokOk ⟨3, t, n⟩ rest
  | word {t rest : List UInt8} (h : t = [114, 101, 116, 117, 114, 110] ∨ t = [97, 110, 100] ∨ t = [111, 114]) (hs : ∀ b, rest.head? = some b → partB b.toNat = false) : TokOk ⟨2, t, 0⟩ rest
  | sign {c : UInt8} {rest : List UInt8} (h : c = 40 ∨ c = 41 ∨ c = 43 ∨ c = 45 ∨ c = 42) (hs : c ≠ 45 ∨ rest.head? ≠ some 45) : TokOk ⟨5, [c], 0⟩ rest
/-- All of a list. -/
def Good : List (List UInt8 × Tok) → Prop
  | [] => True
  | x :: l => (∀ b ∈ x.1, blankB b.toNat = true) ∧ TokOk x.2 (flat l) ∧ Good l
theorem TokOk.ascii {t : Tok} {rest : List UInt8} (h : TokOk t rest) : ∀ b ∈ t.text, b.toNat < 128 := by
  cases h with
  | num h h0 h8 hn hs =>
    intro b hb
    have := h b hb
    simp only [digitB, decide_eq_true_eq] at this
    omega
  | word h hs => rcases h with rfl | rfl | rfl <;> decide
  | sign h hs => rcases h with rfl | rfl | rfl | rfl | rfl <;> decide
theorem good_ascii : ∀ (l : List (List UInt8 × Tok)), Good l → ∀ b ∈ flat l, b.toNat < 128
  | [], _, b, hb => by simp [flat_nil] at hb
  | (p, t) :: l, h, b, hb => by
    rw [flat_cons, List.mem_append, List.mem_append] at hb
    rcases hb with (hb | hb) | hb
    · have := h.1 b hb
      simp only [blankB, decide_eq_true_eq] at this
      omega
    · exact h.2.1.ascii b hb
    · exact good_ascii l h.2.2 b hb
theorem pre_two {c : UInt8} {M : List UInt8} (h : c ≠ 45 ∨ M.head? ≠ some 45) : strings_HasPrefix.f (bs (c :: M)) (bs [45, 45]) = some false := by
  by_cases hc : c = 45
  · subst hc
    have hM : M.head? ≠ some 45 := h.resolve_left (fun h => h rfl)
    unfold strings_HasPrefix.f stringslite_HasPrefix.f
    split
    · show some _ = _
      congr 1
      have e : (((bs [45, 45]).size : Nat) : Int).toNat = 2 := rfl
      rw [e, toList_data, toList_data, ByteArray.data_extract]
      cases M with
      | nil => rfl
      | cons x m =>
        have hx : x ≠ 45 := fun e => hM (by rw [e]; rfl)
        simp [bs]
        exact hx
    · rfl
  · exact pre_no (.inr (by intro e; exact hc (Option.some.inj e).symm)) (by simp) M
end Go.Proofs.YtaoippnipcchmaaGreatDoor.PT
/- TopCode: the scanner's next over a list of tokens. -/
namespace Go.Proofs.YtaoippnipcchmaaGreatDoor.PT
open Go.RowKit Go.Proofs.YtaoippnipcchmaaGreatDoorW.PrintWords Go.Proofs.YtaoippnipcchmaaGreatDoorW.PrintLast Go.Proofs.YtaoippnipcchmaaGreatDoorW.PrintMore
open Go.Proofs.YtaoippnipcchmaaGreatDoor.TP
set_option linter.unusedVariables false
set_option linter.unusedSimpArgs false

theorem not_blank {c : UInt8} (h : letterB c.toNat = true ∨ digitB c.toNat = true) : blankB c.toNat = false ∧ c.toNat ≠ 34 ∧ c.toNat ≠ 39 ∧ c ≠ 45 := by
  have hc : c ≠ 45 := by
    rintro rfl
    rcases h with h | h <;> cases h
  simp only [letterB, digitB, blankB, decide_eq_true_eq, decide_eq_false_iff_not] at h ⊢
  exact ⟨by omega, by omega, by omega, hc⟩
theorem next_step {w0 w : World} {s at_ : Nat} {src : ByteArray} {T : List Tk} {v : Value} (h : Sc w0 s src at_ T v w) (hT : Tabs w0) (hsz : src.size ≤ 65000) (hat : at_ ≤ src.size) (hl : T.length < 60000)
    (x : List UInt8 × Tok) (l : List (List UInt8 × Tok)) (hg : Good (x :: l)) (hL : src.extract at_ src.size = bs (flat (x :: l))) :
    Calls Tryz.prog 29 #[.pointer (some ⟨s, 0, none⟩)] w fun r w' => r = .returned (.bool true) ∧ ∃ v' at2 y, Sc w0 s src at2 (T ++ [y]) v' w' ∧ Adv s v v' w w' ∧ Mt x.2 y ∧ src.extract at2 src.size = bs (flat l) ∧ at2 ≤ src.size := by
  have hasc := good_ascii _ hg
  obtain ⟨p, t⟩ := x
  obtain ⟨hp, htok, hgl⟩ := hg
  rw [flat_cons] at hL hasc
  have hel := ext_size hat hL
  have hd1 : src.extract (at_ + p.length) src.size = bs (t.text ++ flat l) := by
    rw [List.append_assoc] at hL
    exact ext_drop hat hL
  have hd2 : src.extract (at_ + p.length + t.text.length) src.size = bs (flat l) := by
    have := ext_drop hat hL
    rw [List.length_append] at this
    rw [Nat.add_assoc]
    exact this
  rw [List.length_append, List.length_append] at hel
  have hat1 : at_ + p.length ≤ src.size := by omega
  have hat2 : at_ + p.length + t.text.length ≤ src.size := by omega
  have hasc1 : ∀ b ∈ t.text ++ flat l, b.toNat < 128 := fun b hb => hasc b (by rw [List.append_assoc]; exact List.mem_append_right _ hb)
  have fin : ∀ (y : Tk), Mt t y → (Calls Tryz.prog 29 #[.pointer (some ⟨s, 0, none⟩)] w fun r w' => r = .returned (.bool true) ∧ ∃ v', Sc w0 s src (at_ + p.length + t.text.length) (T ++ [y]) v' w' ∧ Adv s v v' w w') → Calls Tryz.prog 29 #[.pointer (some ⟨s, 0, none⟩)] w fun r w' => r = .returned (.bool true) ∧ ∃ v' at2 y, Sc w0 s src at2 (T ++ [y]) v' w' ∧ Adv s v v' w w' ∧ Mt t y ∧ src.extract at2 src.size = bs (flat l) ∧ at2 ≤ src.size :=
    fun y hy hc => hc.mono fun r w' ⟨hr, v', h1, h2⟩ => ⟨hr, v', _, y, h1, h2, hy, hd2, hat2⟩
  cases htok with
  | @num tx n _ hdg h0 h8 hn hs =>
    cases tx with
    | nil => exact absurd rfl h0
    | cons c m =>
      have hc : digitB c.toNat = true := hdg c (by simp)
      obtain ⟨b1, b2, b3, b4⟩ := not_blank (.inr hc)
      have hcl : letterB c.toNat = false := by
        simp only [letterB, digitB, decide_eq_true_eq, decide_eq_false_iff_not] at hc ⊢
        omega
      have hL2 : src.extract at_ src.size = bs (p ++ c :: (m ++ flat l)) := by rw [hL]; simp
      refine fin ⟨3, bs (c :: m), (numV (c :: m) : Nat), (at_ + p.length : Nat)⟩ ⟨rfl, rfl, by rw [hn]⟩ ?_
      exact next_tok h hT hsz hat p (m ++ flat l) c hL2 (by simpa using hasc) hp b1 (pre_two (.inl b4)) ⟨b2, b3⟩ _ _ (.inr (.inl ⟨hcl, hc, fun W hS _ => number_call hS hsz hat1 hl (c :: m) (flat l) hdg h0 h8 hd1 hasc1 hs⟩))
  | @word tx _ htx hs =>
    have hcl : ∃ c m, tx = c :: m ∧ letterB c.toNat = true := by rcases htx with rfl | rfl | rfl <;> exact ⟨_, _, rfl, by decide⟩
    obtain ⟨c, m, rfl, hc⟩ := hcl
    obtain ⟨b1, b2, b3, b4⟩ := not_blank (.inl hc)
    have hL2 : src.extract at_ src.size = bs (p ++ c :: (m ++ flat l)) := by rw [hL]; simp
    refine fin ⟨2, bs (c :: m), 0, (at_ + p.length : Nat)⟩ ⟨rfl, rfl, rfl⟩ ?_
    exact next_tok h hT hsz hat p (m ++ flat l) c hL2 (by simpa using hasc) hp b1 (pre_two (.inl b4)) ⟨b2, b3⟩ _ _ (.inl ⟨hc, fun W hS hTW => name_call hS hTW hsz hat1 hl (c :: m) (flat l) htx hd1 hasc1 hs⟩)
  | @sign c _ hcs hs =>
    have hq : blankB c.toNat = false ∧ letterB c.toNat = false ∧ digitB c.toNat = false ∧ c.toNat ≠ 34 ∧ c.toNat ≠ 39 := by rcases hcs with rfl | rfl | rfl | rfl | rfl <;> decide
    have hk : ∃ k, signsL[k]? = some [c] ∧ ∀ i, i < k → noPre c (signsL.getD i []) = true := by
      rcases hcs with rfl | rfl | rfl | rfl | rfl
      · exact ⟨14, rfl, by decide⟩
      · exact ⟨15, rfl, by decide⟩
      · exact ⟨6, rfl, by decide⟩
      · exact ⟨7, rfl, by decide⟩
      · exact ⟨8, rfl, by decide⟩
    obtain ⟨k, hk1, hk2⟩ := hk
    have hL2 : src.extract at_ src.size = bs (p ++ c :: flat l) := by rw [hL]; simp
    refine fin ⟨5, bs [c], 0, (at_ + p.length : Nat)⟩ ⟨rfl, rfl, rfl⟩ ?_
    exact next_tok h hT hsz hat p (flat l) c hL2 (by simpa using hasc) hp hq.1 (pre_two hs) ⟨hq.2.2.2.1, hq.2.2.2.2⟩ _ _ (.inr (.inr ⟨hq.2.1, hq.2.2.1, fun W hS hTW => sign_call hS hTW hsz hat1 hl c (flat l) hd1 k hk1 hk2⟩))
/-- These tokens have been met. -/
def Met (l : List Tok) (T : List Tk) : Prop := l.length = T.length ∧ ∀ i t, l[i]? = some t → Mt t (tk T i)
theorem Met.snoc {l : List Tok} {T : List Tk} {t : Tok} {y : Tk} (h : Met l T) (hy : Mt t y) : Met (l ++ [t]) (T ++ [y]) := by
  refine ⟨by rw [List.length_append, List.length_append, h.1]; rfl, fun i u hu => ?_⟩
  rcases Nat.lt_or_ge i l.length with hi | hi
  · rw [List.getElem?_append_left hi] at hu
    have := h.2 i u hu
    unfold tk at this ⊢
    rw [List.getD_eq_getElem?_getD, List.getElem?_append_left (by rw [← h.1]; exact hi), ← List.getD_eq_getElem?_getD]
    exact this
  · rw [List.getElem?_append_right hi] at hu
    have hi0 : i = l.length := by
      have := (List.getElem?_eq_some_iff.1 hu).1
      simp at this
      omega
    subst hi0
    have hu' : t = u := by simpa using hu
    subst hu'
    unfold tk
    rw [List.getD_eq_getElem?_getD, List.getElem?_append_right (by rw [h.1]; exact Nat.le_refl _), h.1, Nat.sub_self]
    exact hy
theorem Met.toks {l : List Tok} {T : List Tk} (h : Met l T) : Toks T 0 l := fun j t hj => by
  have hlt := (List.getElem?_eq_some_iff.1 hj).1
  rw [Nat.zero_add]
  exact ⟨by rw [← h.1]; exact hlt, h.2 j t hj⟩
end Go.Proofs.YtaoippnipcchmaaGreatDoor.PT
/- TopCode: Scan. -/
namespace Go.Proofs.YtaoippnipcchmaaGreatDoor.PT
open Go.RowKit Go.Proofs.YtaoippnipcchmaaGreatDoorW.PrintWords Go.Proofs.YtaoippnipcchmaaGreatDoorW.PrintLast Go.Proofs.YtaoippnipcchmaaGreatDoorW.PrintMore
open Go.Proofs.YtaoippnipcchmaaGreatDoor.TP
set_option linter.unusedVariables false
set_option linter.unusedSimpArgs false

set_option maxHeartbeats 8000000 in
set_option maxRecDepth 100000 in
theorem scan_call (all : List (List UInt8 × Tok)) (hg : Good all) (hsz : (flat all).length ≤ 20000) (hlen : all.length ≤ 50000) (w : World) (hT : Tabs w) :
    Calls Tryz.prog 15 #[.string (bs (flat all))] w fun r w' => ∃ a c T, r = .returned (.tuple #[.slice (some ⟨a, 0, none⟩) T.length c, .agg #[.int .i64 0, .int .i64 0]]) ∧ Kd.R k88 88 w' 0 (fun k => k = a) (.slice (some ⟨a, 0, none⟩) T.length c) T ∧ w.heap.size ≤ a ∧ T.length ≤ 65536 ∧ Toks T 0 (all.map (·.2) ++ [tEnd]) ∧ Below w.heap.size w w' := by
  have hmf : ∀ (fn : Fn) (first cap : Array Value) (w : World), (Instr.makeFunc fn first cap).run Tryz.prog w = .ok (.func fn first cap) w := fun _ _ _ _ => rfl
  obtain ⟨src, hsrc⟩ : ∃ src, bs (flat all) = src := ⟨_, rfl⟩
  have hss : src.size = (flat all).length := by rw [← hsrc]; rfl
  have hex : src.extract 0 src.size = bs (flat all) := by rw [hsrc]; exact ByteArray.extract_zero_size
  rw [hsrc]
  have d1 : decide ((src.size : Int) > 20000) = false := decide_eq_false (by omega)
  have d2 : decide (20000 < (src.size : Int)) = false := decide_eq_false (by omega)
  obtain ⟨w1, hw1, hb1, hn1, hf1, hs1⟩ : ∃ w1, (w.alloc (.cells #[.slice none 0 0] 79)).alloc (.cells #[.int .i64 0, .int .i64 0] 31) = w1 ∧ Below w.heap.size w w1 ∧ w1.heap[w.heap.size]? = some (.cells #[.slice none 0 0] 79 (0, 0)) ∧ w1.heap[w.heap.size + 1]? = some (.cells #[.int .i64 0, .int .i64 0] 31 (0, 0)) ∧ w1.heap.size = w.heap.size + 2 :=
    ⟨_, rfl, ((Below.refl _ _).alloc (Nat.le_refl _) _).alloc (by simp) _, (Below.heap_alloc _ _ _ (by simp)).trans (heap_alloc_new _ _), by have := heap_alloc_new (w.alloc (.cells #[.slice none 0 0] 79)) (.cells #[.int .i64 0, .int .i64 0] 31); simpa using this, by simp⟩
  have HT := Lib.hid (hT.below hb1)
  have HA := Lib.hid (And.intro hg (And.intro hlen (And.intro hex (show src.size ≤ 20000 by omega))))
  have N1 := Lib.hid (And.intro hn1 (And.intro hf1 (And.intro hs1 hb1)))
  clear hg hsz hlen hex hss hT hb1 hn1 hf1 hs1 hsrc
  go_enter_defers Tryz.func15, Tryz.ntmps15
  go_wp2_with fail
  have hS0 : Sc w1 w1.heap.size src 0 [] (.slice none 0 0) (w1.alloc (.cells #[.string src, .int .i64 0, .slice none 0 0] 99)) := ⟨heap_alloc_new _ _, Kd.R_nil _ _ _ _ _, below_alloc (Below.refl _ _) _, Nat.le_refl _⟩
  have HS0 := Lib.hid hS0
  clear hS0
  go_loopg [14] (all.length + 1) (fun kq v14 wr => RowKit.Hid (∃ (done rest : List (List UInt8 × Tok)) (at_ : Nat) (T : List Tk) (v : Value), kq = rest.length + 1 ∧ done ++ rest = all ∧ Sc w1 w1.heap.size src at_ T v wr ∧ Met (done.map (·.2)) T ∧ src.extract at_ src.size = bs (flat rest) ∧ at_ ≤ src.size ∧ Good rest))
  case atStart => exact Lib.hid ⟨[], all, 0, [], _, rfl, rfl, HS0.out, ⟨rfl, fun i t h => by simp at h⟩, HA.out.2.2.1, Nat.zero_le _, HA.out.1⟩
  case round =>
    obtain ⟨done, rest, at_, T, v, hk, hdr, hS, hM, hex, hat, hgr⟩ := hrel.out
    have hlT : T.length < 60000 := by
      have := hM.1
      rw [List.length_map] at this
      have h2 : done.length + rest.length = all.length := by rw [← hdr, List.length_append]
      have := HA.out.2.1
      omega
    cases rest with
    | nil =>
      have hx := next_end hS (by have := HA.out.2.2.2; omega) hat hex
      have HX := Lib.hid hx
      have HM := Lib.hid (And.intro hM (And.intro hdr (And.intro hat hlT)))
      clear hrel hk hdr hS hM hex hat hgr hx hlT
      go_wp2_with fail
      refine HX.out.mono ?_
      rintro r w2 ⟨rfl, v2, hK2, hA2⟩
      have K2 := Lib.hid hK2
      clear hK2 hA2 HX
      go_wp2_with fail
      refine (sadd_call K2.out HM.out.2.2.2 6 ⟨#[]⟩ 0 0 0 (by have := HM.out.2.2.1; have := HA.out.2.2.2; omega)).mono ?_
      rintro r w3 ⟨rfl, v3, hK3, hA3⟩
      have hMe : Met (all.map (·.2) ++ [tEnd]) (T ++ [(⟨6, ⟨#[]⟩, 0, at_⟩ : Tk)]) := by
        have hd : done = all := by have := HM.out.2.1; rw [List.append_nil] at this; exact this
        have hm := HM.out.1
        rw [hd] at hm
        exact hm.snoc ⟨rfl, rfl, rfl⟩
      obtain ⟨T3, hT3⟩ : ∃ T3, T ++ [(⟨6, ⟨#[]⟩, 0, at_⟩ : Tk)] = T3 := ⟨_, rfl⟩
      have hl3 : T3.length ≤ 65536 ∧ 0 < T3.length := by rw [← hT3, List.length_append, List.length_singleton]; have := HM.out.2.2.2; omega
      rw [hT3] at hK3 hMe
      obtain ⟨A3, c3, rfl, hc3, hC3⟩ := hK3.slice
      obtain ⟨ad, rfl, _⟩ := hC3.2.2 hl3.2
      obtain ⟨a, rfl⟩ := Kd.R_head hK3.row
      have ha : w1.heap.size ≤ a := Kd.R_base hK3.row a (by simp [Value.ownBlock])
      have hb3 := hK3.b0
      have hrow := Kd.R_tight rfl hK3.row
      have N3 := Lib.hid (And.intro (Bel.blk hb3 N1.out.1) (Bel.blk hb3 N1.out.2.1))
      have B3 := Lib.hid (N1.out.2.2.2.trans (hb3.mono N1.out.2.2.2.size))
      have Q3 := Lib.hid (And.intro hrow (And.intro ha (And.intro hl3.1 hMe)))
      obtain ⟨s0, s1, s2⟩ := three_of hK3.bs
      have n0 := one_of N3.out.1
      have z0 := blk_frozen N3.out.1 0
      obtain ⟨f0, f1, e0, e1⟩ := two_of N3.out.2
      clear hK3 hA3 hMe hT3 hl3 hc3 hC3 hb3 hrow ha hw1
      go_wp2_with fail
      obtain ⟨w4, hw4, hn4, hf4, hF4⟩ : ∃ w4, ((w3.setCell ⟨w.heap.size, 0, none⟩ (.slice (some ⟨a, 0, none⟩) T3.length c3)).setCell ⟨w.heap.size + 1, 0, none⟩ (.int .i64 0)).setCell ⟨w.heap.size + 1, 1, none⟩ (.int .i64 0) = w4 ∧ w4.heap[w.heap.size]? = some (.cells #[.slice (some ⟨a, 0, none⟩) T3.length c3] 79 (0, 0)) ∧ w4.heap[w.heap.size + 1]? = some (.cells #[.int .i64 0, .int .i64 0] 31 (0, 0)) ∧ Fr (fun k => k = w.heap.size ∨ k = w.heap.size + 1) w3 w4 := by
        have k1 := blk_far (p := ⟨w.heap.size + 1, 1, none⟩) (blk_far (p := ⟨w.heap.size + 1, 0, none⟩) (blk_put (cs := #[.slice none 0 0]) N3.out.1 0 (.slice (some ⟨a, 0, none⟩) T3.length c3) rfl) (by show w.heap.size ≠ w.heap.size + 1; omega) (.int .i64 0)) (by show w.heap.size ≠ w.heap.size + 1; omega) (.int .i64 0)
        have k2 := blk_put (cs := #[.int .i64 0, .int .i64 0]) (blk_put (cs := #[.int .i64 0, .int .i64 0]) (blk_far (p := ⟨w.heap.size, 0, none⟩) N3.out.2 (by show w.heap.size + 1 ≠ w.heap.size; omega) (.slice (some ⟨a, 0, none⟩) T3.length c3)) 0 (.int .i64 0) rfl) 1 (.int .i64 0) rfl
        exact ⟨_, rfl, k1, k2, ((Fr.set (c := fun k => k = w.heap.size ∨ k = w.heap.size + 1) (p := ⟨w.heap.size, 0, none⟩) (.inl rfl) _).trans (Fr.set (c := fun k => k = w.heap.size ∨ k = w.heap.size + 1) (p := ⟨w.heap.size + 1, 0, none⟩) (.inr rfl) _)).trans (Fr.set (c := fun k => k = w.heap.size ∨ k = w.heap.size + 1) (p := ⟨w.heap.size + 1, 1, none⟩) (.inr rfl) _)⟩
      first | rw [hw4] | skip
      have hs1 := N1.out.2.2.1
      have hrow : Kd.R k88 88 w4 0 (fun k => k = a) (.slice (some ⟨a, 0, none⟩) T3.length c3) T3 := by
        have h1 := Kd.R_step (Kd.R_bound Q3.out.1) (fun k hk hlt => hF4.block k hlt (fun e => by have := hk.2.1; omega))
        exact Kd.R_lower (Kd.R_mono h1 (fun k hk => by have := hk.1; simpa [Value.ownBlock] using this)) (Nat.zero_le _)
      have hb4 := B3.out.trans (hF4.below B3.out.size (fun k hk => by omega))
      refine leaves_cons (f := 28) (args := #[.pointer (some ⟨w.heap.size, 0, none⟩), .pointer (some ⟨w.heap.size + 1, 0, none⟩)]) (by simp) (by simp [go_sem]) ?_
      refine (scan_door _ _ _).mono ?_
      rintro e' u' w'' ⟨rfl, rfl, rfl⟩
      exact ⟨_, results_oc rfl _ _ w.heap.size (w.heap.size + 1) _ _ _ rfl (one_of hn4) Tryz.underlying79 rfl rfl (run_loadVar_row _ _ 31 31 _ (0, 0) _ hf4 Tryz.underlying31 rfl (by kernel_rfl)), a, c3, T3, rfl, hrow, by have := Q3.out.2.1; omega, Q3.out.2.2.1, Q3.out.2.2.2.toks, hb4⟩
    | cons x l =>
      have hx := next_step hS HT.out (by have := HA.out.2.2.2; omega) hat hlT x l hgr hex
      have HX := Lib.hid hx
      have HM := Lib.hid (And.intro hM (And.intro hdr (And.intro hk hgr)))
      clear hrel hk hdr hS hM hex hat hgr hx hlT
      go_wp2_with fail
      refine HX.out.mono ?_
      rintro r w2 ⟨rfl, v2, at2, y, hK2, hA2, hMt, hex2, hat2⟩
      have K2 := Lib.hid (And.intro hK2 (And.intro hMt (And.intro hex2 hat2)))
      clear hK2 hA2 HX hMt hex2 hat2
      go_wp2_with fail
      go_roundg (l.length + 1)
      case measure => have := HM.out.2.2.1; rw [List.length_cons] at this; omega
      case rel => exact Lib.hid ⟨done ++ [x], l, at2, T ++ [y], v2, rfl, by rw [List.append_assoc]; exact HM.out.2.1, K2.out.1, by rw [List.map_append]; exact HM.out.1.snoc K2.out.2.1, K2.out.2.2.1, K2.out.2.2.2, HM.out.2.2.2.2.2⟩
end Go.Proofs.YtaoippnipcchmaaGreatDoor.PT
