/- nodes: what Dump answers, read; the path to a key; the program's hash. -/
import Derived.Test.YtlmmhlabacghnaaNO
namespace Go.Proofs.Ytlmmhlabacghnaa.PH
open Go.RowKit Go.Proofs.YtlmmhlabacghnaaW.PrintWords Go.Proofs.YtlmmhlabacghnaaW.PrintLast Go.Proofs.YtlmmhlabacghnaaW.PrintMore
open Go.Proofs.Ytlmmhlabacghnaa.HM
set_option linter.unusedVariables false
set_option linter.unusedSimpArgs false

/-- The cells of a node of a list that is read. -/
theorem at_nd {w : World} {A : Option Addr} {n : Nat} {xs : List Nd} (h : Kd.C k67 w A n xs) (i : Nat) (h1 : i < n) : ∃ ad, A = some ad ∧ w.cell? (ad.add (i * 7)) = some (.int .i64 (nd xs i).f0.f0) ∧
    w.cell? ⟨(ad.add (i * 7)).block, (ad.add (i * 7)).off + 1, none⟩ = some (.int .i64 (nd xs i).f0.f1) ∧ w.cell? ⟨(ad.add (i * 7)).block, (ad.add (i * 7)).off + 2, none⟩ = some (.string (nd xs i).f0.f2) ∧ w.cell? ⟨(ad.add (i * 7)).block, (ad.add (i * 7)).off + 3, none⟩ = some (.int .i64 (nd xs i).f1.f0) ∧
    w.cell? ⟨(ad.add (i * 7)).block, (ad.add (i * 7)).off + 4, none⟩ = some (.int .i64 (nd xs i).f1.f1) ∧ w.cell? ⟨(ad.add (i * 7)).block, (ad.add (i * 7)).off + 5, none⟩ = some (.string (nd xs i).f1.f2) ∧ w.cell? ⟨(ad.add (i * 7)).block, (ad.add (i * 7)).off + 6, none⟩ = some (.int .i64 (nd xs i).f2) := by
  obtain ⟨ad, e, h0, h2, h3, h4, h5, h6, h7⟩ := at_T67 h (i : Int) (by omega) (by omega)
  rw [Int.toNat_natCast] at h0 h2 h3 h4 h5 h6 h7
  have hr : rd_T67 xs (i : Int) = nd xs i := by unfold rd_T67 nd; rw [Int.toNat_natCast]
  rw [hr] at h0 h2 h3 h4 h5 h6 h7
  exact ⟨ad, e, h0, h2, h3, h4, h5, h6, h7⟩
theorem St_C {w0 w : World} {g a cap : Nat} {l : List Nd} {f : Int} (h : St w0 g a cap l f w) {A : Option Addr} {n : Nat} {xs : List OpD} (hc : Kd.C kO w0 A n xs) : Kd.C kO w A n xs := Kd.C_below hc h.b

/-- The path from its main position to a key that is held. -/
structure Path (l : List Nd) (p m : Nat) (A B : List Nat) : Prop where
  nodup : (A ++ p :: B).Nodup
  link : Linked l (A ++ p :: B)
  head : ∃ t, A ++ p :: B = m :: t
  mem : ∀ x, x ∈ A ++ p :: B → x < l.length ∧ (nd l x).f0.f0 ≠ 0 ∧ hash_Main.f (nd l x).f0.f0 (nd l x).f0.f1 (nd l x).f0.f2 l.length = some ((m : Int), 0)
theorem InvE.path {l : List Nd} {f : Nat} (h : InvE l f) {p : Nat} (hp1 : p < l.length) (hn : (nd l p).f0.f0 ≠ 0) : ∃ m A B, Path l p m A B ∧ m < l.length ∧ hash_Main.f (nd l p).f0.f0 (nd l p).f0.f1 (nd l p).f0.f2 l.length = some ((m : Int), 0) ∧ A.length < l.length ∧
    Found l (nd l p).f0 p (1 + A.length) ∧ 1 ≤ l.length := by
  rcases h.inv with rfl | ⟨C, hI⟩
  · simp at hp1
  · have hko := hI.key hp1 hn
    obtain ⟨at_, r, hf, h1, h2, h3⟩ := hI.find hko
    have hs := hI.small
    rcases h3 with ⟨q, A, B, h4, h5, h6, h7, h8⟩ | ⟨_, h5⟩
    · have hpq : q = p := hI.dist q p h4 hp1 (by rw [h5]; exact hn) h5
      rw [hpq] at h4 h5 h6 h7
      have hm := hp_main hI.pow hko
      have hml := hp_lt hI.pow (nd l p).f0
      refine ⟨hp l.length (nd l p).f0, A, B, ⟨by rw [← h7]; exact hI.nodup _, by rw [← h7]; exact hI.link _, ?_, fun x hx => ?_⟩, hml, hm, by omega, ⟨fun B g a cap f w hP => ?_, by omega, .inr ⟨hko, by omega, p, rfl, hp1, rfl⟩⟩, by omega⟩
      · rcases hI.head (hp l.length (nd l p).f0) with e | e
        · rw [e] at h7; simp at h7
        · rw [← h7]; exact e
      · rw [← h7] at hx
        obtain ⟨a1, a2, a3⟩ := hI.mem _ _ hx
        have a4 := hp_main hI.pow (hI.key a1 a2)
        rw [a3] at a4
        exact ⟨a1, a2, a4⟩
      · rw [h6, h8] at hf
        exact find_call hP _ _ hm (by omega) _ _ _ hf
    · exact absurd rfl (h5 p hp1)
theorem hash_call (k : Ky) (N m e : Int) (w : World) (h : hash_Main.f k.f0 k.f1 k.f2 N = some (m, e)) : Calls Try.prog 27 #[kv k, .int .i64 N] w fun r w' => r = .returned (.tuple #[.int .i64 m, .int .i64 e]) ∧ Below w.heap.size w w' := by
  exact hash_Main.calls _ _ _ _ m e _ h
end Go.Proofs.Ytlmmhlabacghnaa.PH
