/- nodes: what Dump answers, read; the path to a key; the program's hash. -/
import Derived.Test.YtlmmhlabacghnaaNO
namespace Go.Proofs.Ytlmmhlabacghnaa.PH
open Go.RowKit Go.Proofs.YtlmmhlabacghnaaW.PrintWords Go.Proofs.YtlmmhlabacghnaaW.PrintLast Go.Proofs.YtlmmhlabacghnaaW.PrintMore
open Go.Proofs.Ytlmmhlabacghnaa.HM
set_option linter.unusedVariables false
set_option linter.unusedSimpArgs false

/-- The cells of a node of a list that is read. -/
theorem at_nd {w : World} {A : Option Addr} {n : Nat} {xs : List Nd} (h : Kd.C k67 w A n xs) (i : Nat) (h1 : i < n) : ∃ ad, A = some ad ∧ w.cell? (ad.add (i * 7)) = some (.int .i64 (nd xs i).f0.f0) ∧
    w.cell? ⟨(ad.add (i * 7)).block, (ad.add (i * 7)).off + 1, none⟩ = some (.int .i64 (nd xs i).f0.f1) ∧ w.cell? ⟨(ad.add (i * 7)).block, (ad.add (i * 7)).off + 2, none⟩ = some (.string (nd xs i).f0.f2) ∧ w.cell? ⟨(ad.add (i * 7)).block, (ad.add (i * 7)).off + 3, none⟩ = some (.int .i64 (nd xs i).f1.f0) ∧
    w.cell? ⟨(ad.add (i * 7)).block, (ad.add (i * 7)).off + 4, none⟩ = some (.int .i64 (nd xs i).f1.f1) ∧ w.cell? ⟨(ad.add (i * 7)).block, (ad.add (i * 7)).off + 5, none⟩ = some (.string (nd xs i).f1.f2) ∧ w.cell? ⟨(ad.add (i * 7)).block, (ad.add (i * 7)).off + 6, none⟩ = some (.int .i64 (nd xs i).f2) := by
  obtain ⟨ad, e, h0, h2, h3, h4, h5, h6, h7⟩ := at_T67 h (i : Int) (by omega) (by omega)
  rw [Int.toNat_natCast] at h0 h2 h3 h4 h5 h6 h7
  have hr : rd_T67 xs (i : Int) = nd xs i := by unfold rd_T67 nd; rw [Int.toNat_natCast]
  rw [hr] at h0 h2 h3 h4 h5 h6 h7
  exact ⟨ad, e, h0, h2, h3, h4, h5, h6, h7⟩
theorem St_C {w0 w : World} {g a cap : Nat} {l : List Nd} {f : Int} (h : St w0 g a cap l f w) {A : Option Addr} {n : Nat} {xs : List OpD} (hc : Kd.C kO w0 A n xs) : Kd.C kO w A n xs := Kd.C_below hc h.b

theorem St.lower {w w1 wr : World} {g a cap : Nat} {l : List Nd} {f : Int} (h : St w1 g a cap l f wr) (hb : Below w.heap.size w w1) : St w g a cap l f wr :=
  ⟨⟨h.p.blk, Kd.R_lower h.p.row hb.size, h.p.ne, h.p.len⟩, hb.trans (h.b.mono hb.size), Nat.le_trans hb.size h.g⟩
theorem IsP.far {B g a cap : Nat} {l : List Nd} {f : Int} {w : World} (h : IsP B g a cap l f w) {p : Addr} (hg : p.block ≠ g) (ha : p.block ≠ a) (v : Value) : IsP B g a cap l f (w.setCell p v) :=
  ⟨(Below.heap_setCell w p v g (Ne.symm hg)).trans h.blk, Kd.R_far h.row (fun k hk => by rw [hk]; exact Ne.symm ha) v, h.ne, h.len⟩
theorem St.far {w0 w : World} {g a cap : Nat} {l : List Nd} {f : Int} (h : St w0 g a cap l f w) {p : Addr} (hp : w0.heap.size ≤ p.block) (hg : p.block ≠ g) (ha : p.block ≠ a) (v : Value) : St w0 g a cap l f (w.setCell p v) :=
  ⟨h.p.far hg ha v, h.b.setCell hp v, h.g⟩
theorem St.lt {w0 w : World} {g a cap : Nat} {l : List Nd} {f : Int} (h : St w0 g a cap l f w) : g < w.heap.size ∧ a < w.heap.size := ⟨(Array.getElem?_eq_some_iff.1 h.p.blk).1, h.p.alt⟩

/-- The path from its main position to a key that is held. -/
structure Path (l : List Nd) (p m : Nat) (A B : List Nat) : Prop where
  nodup : (A ++ p :: B).Nodup
  link : Linked l (A ++ p :: B)
  head : ∃ t, A ++ p :: B = m :: t
  mem : ∀ x, x ∈ A ++ p :: B → x < l.length ∧ (nd l x).f0.f0 ≠ 0 ∧ hash_Main.f (nd l x).f0.f0 (nd l x).f0.f1 (nd l x).f0.f2 l.length = some ((m : Int), 0)
theorem InvE.path {l : List Nd} {f : Nat} (h : InvE l f) {p : Nat} (hp1 : p < l.length) (hn : (nd l p).f0.f0 ≠ 0) : ∃ m A B, Path l p m A B ∧ m < l.length ∧ hash_Main.f (nd l p).f0.f0 (nd l p).f0.f1 (nd l p).f0.f2 l.length = some ((m : Int), 0) ∧ A.length < l.length ∧
    Found l (nd l p).f0 p (1 + A.length) ∧ 1 ≤ l.length := by
  rcases h.inv with rfl | ⟨C, hI⟩
  · simp at hp1
  · have hko := hI.key hp1 hn
    obtain ⟨at_, r, hf, h1, h2, h3⟩ := hI.find hko
    have hs := hI.small
    rcases h3 with ⟨q, A, B, h4, h5, h6, h7, h8⟩ | ⟨_, h5⟩
    · have hpq : q = p := hI.dist q p h4 hp1 (by rw [h5]; exact hn) h5
      rw [hpq] at h4 h5 h6 h7
      have hm := hp_main hI.pow hko
      have hml := hp_lt hI.pow (nd l p).f0
      refine ⟨hp l.length (nd l p).f0, A, B, ⟨by rw [← h7]; exact hI.nodup _, by rw [← h7]; exact hI.link _, ?_, fun x hx => ?_⟩, hml, hm, by omega, ⟨fun B g a cap f w hP => ?_, ?_, by omega, .inr ⟨hko, by omega, p, rfl, hp1, rfl⟩⟩, by omega⟩
      · rcases hI.head (hp l.length (nd l p).f0) with e | e
        · rw [e] at h7; simp at h7
        · rw [← h7]; exact e
      · rw [← h7] at hx
        obtain ⟨a1, a2, a3⟩ := hI.mem _ _ hx
        have a4 := hp_main hI.pow (hI.key a1 a2)
        rw [a3] at a4
        exact ⟨a1, a2, a4⟩
      · rw [h6, h8] at hf
        exact find_call hP _ _ hm (by omega) _ _ _ hf
      · rw [h6, h8] at hf
        exact fndR_yes hs.1 hko hf
    · exact absurd rfl (h5 p hp1)
theorem hash_call (k : Ky) (N m e : Int) (w : World) (h : hash_Main.f k.f0 k.f1 k.f2 N = some (m, e)) : Calls Try.prog 27 #[kv k, .int .i64 N] w fun r w' => r = .returned (.tuple #[.int .i64 m, .int .i64 e]) ∧ Below w.heap.size w w' := by
  exact hash_Main.calls _ _ _ _ m e _ h
/-- A list of nodes in memory of its own, apart from the part's. -/
def DR (g a : Nat) (w : World) (v : Value) (l : List Nd) : Prop := Kd.R k67 67 w 0 (fun k => k ≠ g ∧ k ≠ a) v l
theorem DR.of {g a B : Nat} {w : World} {v : Value} {l : List Nd} (h : Kd.R k67 67 w B (fun k => B ≤ k) v l) (hg : g < B ∧ a < B) : DR g a w v l :=
  Kd.R_mono (Kd.R_lower h (Nat.zero_le _)) (fun k hk => by omega)
theorem DR.below {g a : Nat} {w w' : World} {v : Value} {l : List Nd} (h : DR g a w v l) (hb : Below w.heap.size w w') : DR g a w' v l := Kd.R_below h hb
theorem DR.fr {g a : Nat} {w w' : World} {v : Value} {l : List Nd} (h : DR g a w v l) (hF : Fr (fun k => k = g ∨ k = a) w w') : DR g a w' v l := Kd.R_step h (fun k hk hlt => hF.block k hlt (by omega))
theorem DR.reads {g a : Nat} {w : World} {A : Option Addr} {n c : Nat} {l : List Nd} (h : DR g a w (.slice A n c) l) : n = l.length ∧ Kd.C k67 w A l.length l := by
  obtain ⟨A', c', e, _, hC⟩ := Kd.R_reads h
  injection e with e1 e2 e3
  subst e1
  exact ⟨e2, hC⟩
/-- A Put that goes through tells what Find tells. -/
theorem PutP.reads {l : List Nd} {f : Nat} {k v : Ky} {l' : List Nd} {f' : Nat} {at_ r e : Int} (h : PutP l f k v l' f' at_ r e) (he : e = 0) {at2 rd : Int} (hF : Found l k at2 rd) : putR k v r = rd ∧ at_ = at2 := by
  obtain ⟨h1, h2⟩ := h.found.uniq hF
  refine ⟨?_, h1⟩
  rcases h.ways with ⟨_, h3, _⟩ | ⟨h3, h4, ⟨_, h5, _⟩ | ⟨h5, _⟩⟩
  · omega
  · omega
  · unfold putR
    rw [if_pos ⟨h3, h4, h5⟩, h2]
/-- Setting a held key, or nothing where there is none. -/
theorem PutP.sets {l : List Nd} {f : Nat} {k W V : Ky} {l' : List Nd} {f' : Nat} {at_ r e at2 rd : Int} (h : PutP l f k W l' f' at_ r e) (hF : Found l k at2 rd) (hV : okB V.f0 V.f1 V.f2 = true) (hW : (at2 < 0 ∧ W = z30) ∨ (0 ≤ at2 ∧ W = V)) (j : Nat) (hj : j < l.length) :
    nd l' j = if (j : Int) = at2 then ⟨(nd l j).f0, V, (nd l j).f2⟩ else nd l j := by
  obtain ⟨rfl, _⟩ := h.found.uniq hF
  rcases hW with ⟨ha, rfl⟩ | ⟨ha, rfl⟩
  · rw [if_neg (by omega)]
    rcases h.ways with ⟨_, _, h3, _⟩ | ⟨_, _, ⟨_, _, h3, _⟩ | ⟨_, ⟨p, h4, _⟩ | ⟨_, _, _, h3, _⟩ | ⟨_, h4, _⟩⟩⟩
    · rw [h3]
    · rw [h3]
    · omega
    · rw [h3]
    · exact absurd rfl h4
  · rcases hF.at_ with ⟨h4, _⟩ | ⟨hk, _, p, h4, h5, h6⟩
    · omega
    · rcases h.ways with ⟨h3, _⟩ | ⟨_, _, ⟨h3, _⟩ | ⟨_, ⟨q, h7, h8, h9, _, h3, _⟩ | ⟨h3, _⟩ | ⟨h3, _⟩⟩⟩
      · rcases h3 with h3 | h3
        · rw [hk.1] at h3; cases h3
        · rw [hV] at h3; cases h3
      · exact absurd h3 hk.2
      · rw [h3]
        by_cases hjq : j = q
        · subst hjq
          rw [nd_eq _ _ h8, if_pos (by omega)]
        · rw [nd_ne _ _ (Ne.symm hjq), if_neg (by omega)]
      · omega
      · omega
end Go.Proofs.Ytlmmhlabacghnaa.PH
