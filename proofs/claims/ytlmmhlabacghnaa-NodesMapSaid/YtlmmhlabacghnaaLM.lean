/- NodesMap walked. -/
import Derived.Test.YtlmmhlabacghnaaNK
import Derived.Deep.CutBlock
import Derived.Deep.RegionLaw
import Derived.Deep.RegionHeld3
namespace Go.Proofs.Ytlmmhlabacghnaa.PH
open Go.RowKit Go.Proofs.YtlmmhlabacghnaaW.PrintWords Go.Proofs.YtlmmhlabacghnaaW.PrintLast Go.Proofs.YtlmmhlabacghnaaW.PrintMore
open Go.Proofs.Ytlmmhlabacghnaa.HM
set_option linter.unusedVariables false
set_option linter.unusedSimpArgs false

/-- A list of keys in memory of the run's own. -/
def KR (B : Nat) (w : World) (v : Value) (xs : List Ky) : Prop := Kd.R k30 30 w B (fun k => v.ownBlock = some k) v xs
theorem kv_any {w : World} {B : Nat} {ok ok' : Nat → Prop} {x : Ky} {cs : List Value} (h : k30.M w B ok x cs) : k30.M w B ok' x cs := by
  obtain rfl := k30_openM h
  exact k30_mkM w B ok' x
theorem KR.of {B : Nat} {w : World} {v : Value} {xs : List Ky} {ok : Nat → Prop} (h : Kd.R k30 30 w B ok v xs) : KR B w v xs := ⟨fun k hk => hk, h.2.imp_ (fun _ _ hp => kv_any hp)⟩
theorem KR.to {B : Nat} {w : World} {v : Value} {xs : List Ky} {ok : Nat → Prop} (h : KR B w v xs) (hk : ∀ k, v.ownBlock = some k → ok k) : Kd.R k30 30 w B ok v xs := ⟨hk, h.2.imp_ (fun _ _ hp => kv_any hp)⟩
theorem KR.step {B : Nat} {w w1 : World} {v : Value} {xs : List Ky} (h : KR B w v xs) (hm : ∀ k, v.ownBlock = some k → k < w.heap.size → w1.heap[k]? = w.heap[k]?) : KR B w1 v xs := Kd.R_step h hm
theorem KR.below {B : Nat} {w w1 : World} {v : Value} {xs : List Ky} (h : KR B w v xs) (hb : Below w.heap.size w w1) : KR B w1 v xs := Kd.R_below h hb
theorem KR.lt {B : Nat} {w : World} {v : Value} {xs : List Ky} (h : KR B w v xs) {k : Nat} (hk : v.ownBlock = some k) : k < w.heap.size := by
  obtain ⟨inner, ho⟩ := Kd.R_own h
  exact own_lt ho k hk
/-- Apart from the part's memory. -/
def Off (g a : Nat) (v : Value) : Prop := ∀ k, v.ownBlock = some k → k ≠ g ∧ k ≠ a
def Sep (u v : Value) : Prop := ∀ k, u.ownBlock = some k → v.ownBlock = some k → False
theorem KR.fr {B g a : Nat} {w w1 : World} {v : Value} {xs : List Ky} (h : KR B w v xs) (ho : Off g a v) (hF : Fr (fun k => k = g ∨ k = a) w w1) : KR B w1 v xs := h.step (fun k hk hlt => hF.block k hlt (by have := ho k hk; omega))

def kd (xs : List Ky) (j : Nat) : Ky := xs.getD j z30
theorem kd_mem {xs : List Ky} {j : Nat} (h : j < xs.length) : kd xs j ∈ xs := by
  unfold kd
  rw [List.getD_eq_getElem?_getD, List.getElem?_eq_getElem h]
  exact List.getElem_mem h
/-- What was put and went through, key by key. -/
structure MapI (l : List Nd) (ks vs : List Ky) : Prop where
  len : ks.length = vs.length
  dist : ∀ i j, i < ks.length → j < ks.length → kd ks i = kd ks j → i = j
  val : ∀ j, j < ks.length → (kd ks j).f0 ≠ 0 ∧ (has l (kd ks j) (kd vs j) ∨ ((∀ u, ¬ has l (kd ks j) u) ∧ kd vs j = z30))
/-- What a Put that goes through does. -/
def Eff (l : List Nd) (k v : Ky) (l' : List Nd) : Prop := k.f0 ≠ 0 ∧ (∀ x u, x.f0 ≠ 0 → x ≠ k → (has l' x u ↔ has l x u)) ∧ (has l' k v ∨ ((∀ u, ¬ has l' k u) ∧ v = z30))
theorem nil_z {v : Ky} (h : okB v.f0 v.f1 v.f2 = true) (h0 : v.f0 = 0) : v = z30 := by
  obtain ⟨a, b, ⟨⟨s⟩⟩⟩ := v
  simp only at h0
  subst h0
  unfold okB at h
  rw [if_pos rfl, Bool.and_eq_true, beq_iff_eq, beq_iff_eq, toList_data] at h
  obtain ⟨h1, h2⟩ := h
  subst h1
  obtain rfl : s = [] := h2
  rfl
theorem PutP.eff {l : List Nd} {f : Nat} {k v : Ky} {l' : List Nd} {f' : Nat} {at_ r : Int} (h : PutP l f k v l' f' at_ r 0) : Eff l k v l' := by
  rcases h.ways with ⟨_, h1, _⟩ | ⟨hk, hv, ⟨_, h1, _⟩ | ⟨h0, ⟨p, _, h3, h4, _, h5, _⟩ | ⟨h3, h4, _, h5, _⟩ | ⟨h3, _, ⟨_, _, _, h4⟩ | ⟨h4, _⟩⟩⟩⟩
  · exact absurd h1 (by decide)
  · exact absurd h1 (by decide)
  · refine ⟨h0, fun x u hx hxk => ?_, .inl ⟨p, by rw [h5, List.length_set]; exact h3, by rw [h5, nd_eq _ _ h3]; exact h4, by rw [h5, nd_eq _ _ h3]⟩⟩
    rw [h5]
    refine ⟨fun ⟨q, h6, h7, h8⟩ => ?_, fun ⟨q, h6, h7, h8⟩ => ?_⟩
    · rw [List.length_set] at h6
      by_cases hpq : p = q
      · subst hpq
        rw [nd_eq _ _ h3] at h7
        exact absurd (h7.symm.trans h4) hxk
      · rw [nd_ne _ _ hpq] at h7 h8
        exact ⟨q, h6, h7, h8⟩
    · have hpq : p ≠ q := fun e => hxk (by rw [← h7, ← e, h4])
      exact ⟨q, by rw [List.length_set]; exact h6, by rw [nd_ne _ _ hpq]; exact h7, by rw [nd_ne _ _ hpq]; exact h8⟩
  · have hno : ∀ u, ¬ has l k u := fun u ⟨q, h6, h7, _⟩ => by
      rcases h.found.at_ with ⟨_, h8⟩ | ⟨_, _, p, h8, _⟩
      · exact h8 q h6 (by rw [h7]; exact h0) h7
      · omega
    rw [h5]
    exact ⟨h0, fun x u _ _ => Iff.rfl, .inr ⟨hno, nil_z hv h4⟩⟩
  · refine ⟨h0, fun x u hx hxk => ?_, .inl ((h4 k v h0).2 (.inl ⟨rfl, rfl⟩))⟩
    rw [h4 x u hx]
    exact ⟨fun e => e.resolve_left (fun e => hxk e.1), .inr⟩
  · exact absurd h4 (by decide)
theorem PutP.same {l : List Nd} {f : Nat} {k v : Ky} {l' : List Nd} {f' : Nat} {at_ r e : Int} (h : PutP l f k v l' f' at_ r e) (he : e ≠ 0) : l' = l := by
  rcases h.ways with ⟨_, _, h1, _⟩ | ⟨_, _, ⟨_, _, h1, _⟩ | ⟨_, ⟨p, _, _, _, h1, _⟩ | ⟨_, _, h1, _⟩ | ⟨_, _, ⟨h1, _⟩ | ⟨_, _, h1, _⟩⟩⟩⟩
  · exact h1
  · exact h1
  · exact absurd h1 he
  · exact absurd h1 he
  · exact absurd h1 he
  · exact h1
theorem PutP.errs {l : List Nd} {f : Nat} {k v : Ky} {l' : List Nd} {f' : Nat} {at_ r e : Int} (h : PutP l f k v l' f' at_ r e) : (e = 2 ∧ (okB k.f0 k.f1 k.f2 = false ∨ okB v.f0 v.f1 v.f2 = false)) ∨ (e = 9 ∧ okB k.f0 k.f1 k.f2 = true ∧ okB v.f0 v.f1 v.f2 = true ∧ k.f0 = 0) ∨ e = 12 ∨ e = 0 := by
  rcases h.ways with ⟨h1, h2, _⟩ | ⟨h3, h4, ⟨h5, h1, _⟩ | ⟨_, ⟨p, _, _, _, h1, _⟩ | ⟨_, _, h1, _⟩ | ⟨_, _, ⟨h1, _⟩ | ⟨h1, _⟩⟩⟩⟩
  · exact .inl ⟨h2, h1⟩
  · exact .inr (.inl ⟨h1, h3, h4, h5⟩)
  · exact .inr (.inr (.inr h1))
  · exact .inr (.inr (.inr h1))
  · exact .inr (.inr (.inr h1))
  · exact .inr (.inr (.inl h1))
theorem kd_set (xs : List Ky) (i : Nat) (x : Ky) (j : Nat) : kd (xs.set i x) j = if i = j ∧ i < xs.length then x else kd xs j := by
  unfold kd
  rw [List.getD_eq_getElem?_getD, List.getD_eq_getElem?_getD, List.getElem?_set]
  by_cases h : i = j
  · subst h
    by_cases h2 : i < xs.length
    · rw [if_pos rfl, if_pos h2, if_pos ⟨rfl, h2⟩]; rfl
    · rw [if_pos rfl, if_neg h2, if_neg (by omega), List.getElem?_eq_none (by omega)]
  · rw [if_neg h, if_neg (by omega)]
theorem kd_snoc (xs : List Ky) (x : Ky) (j : Nat) : kd (xs ++ [x]) j = if j = xs.length then x else kd xs j := by
  unfold kd
  rw [List.getD_eq_getElem?_getD, List.getD_eq_getElem?_getD, List.getElem?_append]
  by_cases h : j < xs.length
  · rw [if_pos h, if_neg (by omega)]
  · rw [if_neg h]
    by_cases h2 : j = xs.length
    · subst h2; simp
    · rw [if_neg h2, List.getElem?_eq_none (by simp; omega), List.getElem?_eq_none (by omega)]
theorem MapI.new {l l' : List Nd} {ks vs : List Ky} {k v : Ky} (h : MapI l ks vs) (he : Eff l k v l') (hn : ∀ j, j < ks.length → kd ks j ≠ k) : MapI l' (ks ++ [k]) (vs ++ [v]) := by
  refine ⟨by rw [List.length_append, List.length_append, h.len]; rfl, fun i j hi hj e => ?_, fun j hj => ?_⟩
  · rw [List.length_append, List.length_singleton] at hi hj
    rw [kd_snoc, kd_snoc] at e
    by_cases hi2 : i = ks.length
    · by_cases hj2 : j = ks.length
      · omega
      · rw [if_pos hi2, if_neg hj2] at e
        exact absurd e.symm (hn j (by omega))
    · by_cases hj2 : j = ks.length
      · rw [if_neg hi2, if_pos hj2] at e
        exact absurd e (hn i (by omega))
      · rw [if_neg hi2, if_neg hj2] at e
        exact h.dist i j (by omega) (by omega) e
  · rw [List.length_append, List.length_singleton] at hj
    rw [kd_snoc, kd_snoc, ← h.len]
    by_cases hj2 : j = ks.length
    · rw [if_pos hj2, if_pos hj2]
      exact ⟨he.1, he.2.2⟩
    · rw [if_neg hj2, if_neg hj2]
      obtain ⟨h1, h2⟩ := h.val j (by omega)
      have hne := hn j (by omega)
      refine ⟨h1, ?_⟩
      rcases h2 with h2 | ⟨h2, h3⟩
      · exact .inl ((he.2.1 _ _ h1 hne).2 h2)
      · exact .inr ⟨fun u hu => h2 u ((he.2.1 _ _ h1 hne).1 hu), h3⟩
theorem MapI.set {l l' : List Nd} {ks vs : List Ky} {k v : Ky} (h : MapI l ks vs) (he : Eff l k v l') {i : Nat} (hi : i < ks.length) (hk : kd ks i = k) : MapI l' ks (vs.set i v) := by
  refine ⟨by rw [List.length_set, h.len], h.dist, fun j hj => ?_⟩
  rw [kd_set]
  by_cases hij : i = j
  · subst hij
    rw [if_pos ⟨rfl, by rw [← h.len]; exact hi⟩, hk]
    exact ⟨he.1, he.2.2⟩
  · rw [if_neg (by omega)]
    obtain ⟨h1, h2⟩ := h.val j hj
    have hne : kd ks j ≠ k := fun e => hij (h.dist i j hi hj (by rw [hk, e]))
    refine ⟨h1, ?_⟩
    rcases h2 with h2 | ⟨h2, h3⟩
    · exact .inl ((he.2.1 _ _ h1 hne).2 h2)
    · exact .inr ⟨fun u hu => h2 u ((he.2.1 _ _ h1 hne).1 hu), h3⟩
theorem MapI.get {l : List Nd} {f : Nat} {ks vs : List Ky} (h : MapI l ks vs) (hI : InvE l f) {j : Nat} (hj : j < ks.length) {at_ r : Int} (hF : Found l (kd ks j) at_ r) : valAt l at_ = kd vs j := by
  obtain ⟨h1, h2⟩ := h.val j hj
  rcases hF.at_ with ⟨h3, h4⟩ | ⟨_, _, p, h3, h4, h5⟩
  · rcases h2 with ⟨q, h5, h6, _⟩ | ⟨_, h5⟩
    · exact absurd h6 (h4 q h5 (by rw [h6]; exact h1))
    · unfold valAt
      rw [if_neg (by omega), h5]
  · rcases h2 with ⟨q, h6, h7, h8⟩ | ⟨h6, _⟩
    · have hpq : p = q := hI.keys.dist p q h4 h6 (by rw [h5]; exact h1) (by rw [h5, h7])
      unfold valAt
      rw [if_pos (by omega), h3, Int.toNat_natCast, hpq, h8]
    · exact absurd ⟨p, h4, h5, rfl⟩ (h6 (nd l p).f1)
/-- The cells of a key of a list that is read. -/
theorem at_kd {w : World} {A : Option Addr} {n : Nat} {xs : List Ky} (h : Kd.C k30 w A n xs) (i : Nat) (h1 : i < n) : ∃ ad, A = some ad ∧ w.cell? (ad.add (i * 3)) = some (.int .i64 (kd xs i).f0) ∧
    w.cell? ⟨(ad.add (i * 3)).block, (ad.add (i * 3)).off + 1, none⟩ = some (.int .i64 (kd xs i).f1) ∧ w.cell? ⟨(ad.add (i * 3)).block, (ad.add (i * 3)).off + 2, none⟩ = some (.string (kd xs i).f2) := by
  obtain ⟨ad, e, h0, h2, h3⟩ := at_T30 h (i : Int) (by omega) (by omega)
  rw [Int.toNat_natCast] at h0 h2 h3
  have hr : rd_T30 xs (i : Int) = kd xs i := by unfold rd_T30 kd; rw [Int.toNat_natCast]
  rw [hr] at h0 h2 h3
  exact ⟨ad, e, h0, h2, h3⟩
theorem KR.reads {B : Nat} {w : World} {A : Option Addr} {n c : Nat} {xs : List Ky} (h : KR B w (.slice A n c) xs) : n = xs.length ∧ Kd.C k30 w A xs.length xs := by
  obtain ⟨A', c', e, _, hC⟩ := Kd.R_reads h
  injection e with e1 e2 e3
  subst e1
  exact ⟨e2, hC⟩
/-- Where the key was seen, among the first j. -/
def Seen (ks : List Ky) (k : Ky) (j : Nat) (at_ : Int) : Prop := (at_ = -1 ∧ ∀ t, t < j → kd ks t ≠ k) ∨ ∃ t : Nat, t < j ∧ at_ = t ∧ kd ks t = k
theorem Seen.hit {ks : List Ky} {k : Ky} {j : Nat} (h : kd ks j = k) : Seen ks k (j + 1) j := .inr ⟨j, by omega, rfl, h⟩
theorem Seen.miss {ks : List Ky} {k : Ky} {j : Nat} {at_ : Int} (h : Seen ks k j at_) (hn : kd ks j ≠ k) : Seen ks k (j + 1) at_ := by
  rcases h with ⟨h1, h2⟩ | ⟨t, h1, h2, h3⟩
  · refine .inl ⟨h1, fun t ht => ?_⟩
    by_cases e : t = j
    · rw [e]; exact hn
    · exact h2 t (by omega)
  · exact .inr ⟨t, by omega, h2, h3⟩
/-- The part and the two lists of the law, each in memory of its own. -/
structure RowsM (w0 : World) (g a cap : Nat) (l : List Nd) (f : Int) (w : World) (u8 : Value) (ks : List Ky) (u9 : Value) (vs : List Ky) : Prop where
  st : St w0 g a cap l f w
  k8 : KR w0.heap.size w u8 ks
  k9 : KR w0.heap.size w u9 vs
  o8 : Off g a u8
  o9 : Off g a u9
  sep : Sep u8 u9
theorem RowsM.swap {w0 w : World} {g a cap : Nat} {l : List Nd} {f : Int} {u8 u9 : Value} {ks vs : List Ky} (h : RowsM w0 g a cap l f w u8 ks u9 vs) : RowsM w0 g a cap l f w u9 vs u8 ks := ⟨h.st, h.k9, h.k8, h.o9, h.o8, fun k h1 h2 => h.sep k h2 h1⟩
theorem RowsM.below {w0 w w1 : World} {g a cap : Nat} {l : List Nd} {f : Int} {u8 u9 : Value} {ks vs : List Ky} (h : RowsM w0 g a cap l f w u8 ks u9 vs) (hb : Below w.heap.size w w1) : RowsM w0 g a cap l f w1 u8 ks u9 vs := ⟨h.st.below hb, h.k8.below hb, h.k9.below hb, h.o8, h.o9, h.sep⟩
theorem info_key : (Try.prog.info? 30).map (fun i => (i.zero, i.size, i.bytes)) = some (some (kv z30), 3, 32) := by kernel_rfl
theorem reads_one {w : World} {G : Nat} {k : Ky} (h : w.heap[G]? = some (.cells #[.int .i64 k.f0, .int .i64 k.f1, .string k.f2] 30 (0, 0))) : ReadsRow (k30.K w) 3 w (some ⟨G, 0, none⟩) 1 [k] := by
  refine ⟨rfl, by decide, fun _ => ⟨⟨G, 0, none⟩, rfl, fun j p hj => ?_⟩⟩
  match j, hj with
  | 0, hj =>
    cases hj
    refine ⟨[.int .i64 k.f0, .int .i64 k.f1, .string k.f2], rfl, k30_mk w k, fun i u hu => ?_⟩
    match i, hu with
    | 0, hu => cases hu; exact (three_of h).1
    | 1, hu => cases hu; exact (three_of h).2.1
    | 2, hu => cases hu; exact (three_of h).2.2
    | i + 3, hu => simp at hu
section
variable {ops : Array Oper} {o : Oper} {ac : Act} {Q : Exit → Act → World → Prop} {Kc : Act → World → Prop}
/-- One more in the first list. -/
theorem app_step {w0 W : World} {g a cap : Nat} {l : List Nd} {f : Int} {u8 u9 : Value} {ks vs : List Ky} (hw : Region.wanted o (yielded ops ac.tmps) = true) (s x : Operand) (ho : o.op = .call { callee := .builtin .append, args := #[s, x], argTypes := #[71, 71] })
    (R : RowsM w0 g a cap l f W u8 ks u9 vs) (k : Ky) (G : Nat) (hs : ac.eval s = u8) (hx : ac.eval x = .slice (some ⟨G, 0, none⟩) 1 1) (hG : W.heap[G]? = some (.cells #[.int .i64 k.f0, .int .i64 k.f1, .string k.f2] 30 (0, 0))) (hl : ks.length ≤ 400) (B0 : Nat) (hB0 : ∀ b, u8.ownBlock = some b → b < B0)
    (h : ∀ v1 w1, RowsM w0 g a cap l f w1 v1 (ks ++ [k]) u9 vs → (∀ b, b < W.heap.size → B0 ≤ b → w1.heap[b]? = W.heap[b]?) → W.heap.size ≤ w1.heap.size → Kc (ac.put o.dst v1) w1) :
    if Region.wanted o (yielded ops ac.tmps) = true then Oper.wp Try.prog o ac W Kc Q else Kc (ac.put o.dst undef) W := by
  have hlt := R.st.lt
  refine Kd.R_append_rows_step k30 (Rr := k30.K W) (w0 := w0) (W := W) w0.heap.size hw s x 71 30 (kv z30) 32 ho Try.underlying71 info_key rfl (by decide) (by decide) u8 ks [k] (some ⟨G, 0, none⟩) 1 1 (fun _ => True) (fun _ => False) hs hx (R.k8.to (fun _ _ => trivial)) (reads_one hG) (fun x cs hk => ?_) (fun _ hk => hk.elim) (fun _ _ => trivial) R.st.b R.st.b.size (by omega) (fun v1 w1 hR hB hg hat => ?_)
  · obtain rfl := k30_open hk
    exact k30_mkM _ _ _ _
  · have hfr : ∀ b, b < W.heap.size → some b ≠ u8.ownBlock → w1.heap[b]? = W.heap[b]? := hg.block
    have hgo : some g ≠ u8.ownBlock := fun e => (R.o8 g e.symm).1 rfl
    have hao : some a ≠ u8.ownBlock := fun e => (R.o8 a e.symm).2 rfl
    refine h v1 w1 ⟨⟨⟨(hfr g hlt.1 hgo).trans R.st.p.blk, Kd.R_step R.st.p.row (fun b hb hlt => hfr b hlt (by rw [hb]; exact hao)), R.st.p.ne, R.st.p.len⟩, hB, R.st.g⟩, KR.of hR, R.k9.step (fun b hb hlt => hfr b hlt (fun e => R.sep b e.symm hb)), fun b hb => ?_, R.o9, fun b hb hb2 => ?_⟩ (fun b h1 h2 => hfr b h1 (fun e => by have := hB0 b e.symm; omega)) hg.size
    · rcases hat with e | ⟨c, e, hc⟩
      · exact R.o8 b (by rw [← e]; exact hb)
      · rw [e] at hb
        have : c = b := Option.some.inj hb
        omega
    · rcases hat with e | ⟨c, e, hc⟩
      · exact R.sep b (by rw [← e]; exact hb) hb2
      · rw [e] at hb
        have : c = b := Option.some.inj hb
        have := R.k9.lt hb2
        omega
end
theorem KR.addr {B : Nat} {w : World} {A : Option Addr} {n c : Nat} {xs : List Ky} (h : KR B w (.slice A n c) xs) (hx : 0 < xs.length) : ∃ b, A = some ⟨b, 0, none⟩ := by
  obtain ⟨inner, ho⟩ := Kd.R_own h
  rcases ho.2 with ⟨e, h2⟩ | ⟨b, cp, cur, e, _⟩
  · injection e with e1 e2 e3
    have := (Kd.R_reads' h).1
    omega
  · injection e with e1 e2 e3
    exact ⟨b, e1⟩
theorem RowsM.store {ops : Array Oper} {rest : List Oper} {o : Oper} {ac : Act} {Q : Exit → Act → World → Prop} {w0 W : World} {g a cap : Nat} {l : List Nd} {f : Int} {u8 : Value} {ks vs : List Ky} {b m c : Nat} (R : RowsM w0 g a cap l f W u8 ks (.slice (some ⟨b, 0, none⟩) m c) vs) (hN : o.dst = none) (hgd : o.guard = none) (p x : Operand) (ho : o.op = .store 30 p x)
    (i : Nat) (hi : i < vs.length) (v : Ky) (hp : ac.eval p = .pointer (some ⟨b, i * 3, none⟩)) (hx : ac.eval x = kv v) (hK : ∀ w1, RowsM w0 g a cap l f w1 u8 ks (.slice (some ⟨b, 0, none⟩) m c) (vs.set i v) → wpList Try.prog ops Q rest ac w1) : wpList Try.prog ops Q (o :: rest) ac W := by
  obtain ⟨hm, hC⟩ := R.k9.reads
  obtain ⟨ad, e, q0, q1, q2⟩ := at_kd hC i hi
  obtain rfl := Option.some.inj e
  have h0 : Addr.add ⟨b, 0, none⟩ (i * 3) = ⟨b, i * 3, none⟩ := by
    unfold Addr.add
    by_cases hz : i * 3 = 0
    · rw [if_pos hz, hz]
    · rw [if_neg hz]; simp
  rw [h0] at q0 q1 q2
  have hlt := R.st.lt
  refine Kd.R_store k30 (w0 := w0) (W := W) w0.heap.size hN hgd 30 p x ho 30 (i : Int) 0 vs v (kv v) [.int .i64 v.f0, .int .i64 v.f1, .string v.f2] [.int .i64 (kd vs i).f0, .int .i64 (kd vs i).f1, .string (kd vs i).f2] (fun k => k = b) (fun _ => False) hp (by rw [Int.toNat_natCast]; rfl) hx rfl (by kernel_rfl) (by intro q hq; simp at hq; rcases hq with rfl | rfl | rfl <;> rfl) (R.k9.to (fun k hk => by simpa [Value.ownBlock] using hk.symm)) (by omega) (by omega) rfl ?cc (show 0 + 3 ≤ 3 by decide) ?M (fun _ hk => hk.elim) R.st.b ?_
  case cc =>
    intro j u hu
    rw [Int.toNat_natCast]
    match j, hu with
    | 0, hu => cases hu; exact q0
    | 1, hu => cases hu; exact q1
    | 2, hu => cases hu; exact q2
    | j + 3, hu => simp at hu
  case M => exact k30_mkM _ _ _ _
  intro w1 hR hb hg
  rw [Int.toNat_natCast] at hR
  have hfr : ∀ k, k < W.heap.size → some k ≠ some b → w1.heap[k]? = W.heap[k]? := hg.block
  have hob := R.o9 b rfl
  refine hK w1 ⟨⟨⟨(hfr g hlt.1 (fun e => hob.1 (Option.some.inj e).symm)).trans R.st.p.blk, Kd.R_step R.st.p.row (fun k hk hlt => hfr k hlt (by rw [hk]; exact fun e => hob.2 (Option.some.inj e).symm)), R.st.p.ne, R.st.p.len⟩, hb, R.st.g⟩, R.k8.step (fun k hk hlt => hfr k hlt (fun e => R.sep k hk e.symm)), KR.of hR, R.o8, R.o9, R.sep⟩
theorem opS {w : World} {ad : Addr} {n : Nat} {xs : List OpD} (h : Kd.C kO w (some ad) n xs) {i : Nat} (h1 : i < n) : w.cell? ⟨(ad.add (i * 7)).block, (ad.add (i * 7)).off + 1, none⟩ = some (.int .i64 (od xs i).key.f0) ∧ w.cell? ⟨(ad.add (i * 7)).block, (ad.add (i * 7)).off + 2, none⟩ = some (.int .i64 (od xs i).key.f1) ∧ w.cell? ⟨(ad.add (i * 7)).block, (ad.add (i * 7)).off + 3, none⟩ = some (.string (od xs i).key.f2) ∧
    w.cell? ⟨(ad.add (i * 7)).block, (ad.add (i * 7)).off + 4, none⟩ = some (.int .i64 (od xs i).val.f0) ∧ w.cell? ⟨(ad.add (i * 7)).block, (ad.add (i * 7)).off + 5, none⟩ = some (.int .i64 (od xs i).val.f1) ∧ w.cell? ⟨(ad.add (i * 7)).block, (ad.add (i * 7)).off + 6, none⟩ = some (.string (od xs i).val.f2) := by
  obtain ⟨ad2, hA, o0, o1, o2, o3, o4, o5, o6⟩ := at_op h i h1
  obtain rfl := Option.some.inj hA
  exact ⟨o1, o2, o3, o4, o5, o6⟩
theorem blk_new2 (w : World) (o1 o2 : Obj) : ((w.alloc o1).alloc o2).heap[w.heap.size + 1]? = some o2 := by
  have := heap_alloc_new (w.alloc o1) o2
  simpa using this
set_option maxHeartbeats 8000000 in
set_option maxRecDepth 100000 in
theorem map_yes (w : World) (n : Nat) (hn : RightN n) (hs : n ≤ 4096) (A : Option Addr) (c : Nat) (ops : List OpD) (hr : Kd.C kO w A ops.length ops) (hc : ops.length ≤ c) :
    Calls Try.prog 15 #[.int .i64 n, .slice A ops.length c] w fun e w' => e = .returned (.bool true) ∧ Below w.heap.size w w' := by
  have HN := Lib.hid hn
  have HR := Lib.hid hr
  have HC := Lib.hid hc
  have hol : ops.length ≤ 9223372036854775807 := hr.2.1
  clear hn hr hc
  go_enter Try.func15, Try.ntmps15
  go_wp2_with fail
  refine (fixed_call w).mono ?_
  rintro e w1 ⟨rfl, hb1⟩
  have B1 := Lib.hid hb1
  clear hb1
  go_wp2_with fail
  refine (begin_yes w1 n HN.out (by omega)).mono ?_
  rintro e w2 ⟨g, a, cap, q, rfl, hSt⟩
  have C1 := Lib.hid (Kd.C_below HR.out B1.out)
  have S2 := Lib.hid hSt
  clear hSt
  have hmx : Try.prog.follows .mixedOrders = true := by kernel_rfl
  go_upto_block 0 with (fail)
  go_cut [8, 9] (fun v8 v9 wx => ∃ (l : List Nd) (f : Nat) (ks vs : List Ky), RowKit.Hid (InvE l f) ∧ RowKit.Hid (MapI l ks vs) ∧ RowKit.Hid (St w1 g a cap l f wx) ∧ RowKit.Hid (KR w1.heap.size wx v8 ks ∧ KR w1.heap.size wx v9 vs) ∧ ks.length ≤ 400)
  case first =>
    go_wp2_with fail
    go_loopg [8, 9, 10, 11, 12, 13, 14] ops.length (fun kq v8 v9 v10 v11 v12 v13 v14 wr => ∃ (i : Nat) (l : List Nd) (f : Nat) (ks vs : List Ky), v10 = .int .i64 i ∧ i + kq = ops.length ∧ RowKit.Hid (InvE l f) ∧ RowKit.Hid (MapI l ks vs) ∧ RowKit.Hid (St w1 g a cap l f wr) ∧ RowKit.Hid (KR w1.heap.size wr v8 ks ∧ KR w1.heap.size wr v9 vs ∧ Off g a v8 ∧ Off g a v9 ∧ Sep v8 v9) ∧ RowKit.Hid (ks.length ≤ i ∧ i ≤ 400))
    case atStart => exact ⟨0, _, n, [], [], rfl, by omega, Lib.hid (zeros_inv HN.out), Lib.hid ⟨rfl, fun i j hi => by simp at hi, fun j hj => by simp at hj⟩, S2, Lib.hid ⟨KR.of (Kd.R_nil _ _ _ _ (fun _ => True)), KR.of (Kd.R_nil _ _ _ _ (fun _ => True)), fun k hk => by simp [Value.ownBlock] at hk, fun k hk => by simp [Value.ownBlock] at hk, fun k hk => by simp [Value.ownBlock] at hk⟩, Lib.hid ⟨Nat.le_refl _, by omega⟩⟩
    case round =>
      clear S2
      obtain ⟨i, l, f, ks, vs, rfl, hik, hI, hM, hS, hKR, hKL⟩ := hrel
      have hl4 : (i : Int) ≤ 9223372036854775807 := by omega
      cases gk with
      | zero =>
        have d1 : decide (i < ops.length) = false := decide_eq_false (by omega)
        have d2 : decide ((i : Int) < (ops.length : Int)) = false := decide_eq_false (by omega)
        go_wp2_with fail
        go_meet
        case rel => exact ⟨l, f, ks, vs, hI, hM, hS, Lib.hid ⟨hKR.out.1, hKR.out.2.1⟩, by have := hKL.out; omega⟩
      | succ k1 =>
        have hlt : i < ops.length := by omega
        have d1 : decide (i < ops.length) = true := decide_eq_true (by omega)
        have d2 : decide ((i : Int) < (ops.length : Int)) = true := decide_eq_true (by omega)
        by_cases h4 : i < 400
        · have d3 : decide ((i : Int) < 400) = true := decide_eq_true (by omega)
          have CO := Kd.C_below C1.out hS.out.b
          obtain ⟨ad, hA, o0, o1, o2, o3, o4, o5, o6⟩ := at_op CO i hlt
          have p1 : 0 ≤ (i : Int) := by omega
          have p2 : (i : Int) < (ops.length : Int) := by omega
          replace p1 := eq_true p1
          replace p2 := eq_true p2
          have HH := Lib.hid (And.intro hlt hik)
          subst hA
          clear hlt CO hik
          go_upto_region 10 with (fail)
          go_cut [11, 12] (fun v11 v12 wx => ∃ (l2 : List Nd) (f2 : Nat) (at2 r2 x2 : Int), v12 = .int .i64 x2 ∧ RowKit.Hid (PutP l f (od ops i).key (od ops i).val l2 f2 at2 r2 x2) ∧ RowKit.Hid (St w1 g a cap l2 f2 wx) ∧ RowKit.Hid (KR w1.heap.size wx u8 ks ∧ KR w1.heap.size wx u9 vs ∧ Off g a u8 ∧ Off g a u9 ∧ Sep u8 u9))
          case first =>
            obtain ⟨l2, f2, at2, r2, x2, hP, hC⟩ := hI.out.put (od ops i).key (od ops i).val
            have S3 := Lib.hid (hS.out.below (Below.refl _ _).drew)
            have HP := Lib.hid hP
            have hx := hC _ g a cap _ S3.out.p S3.out.b.size
            unfold kv at hx
            go_region_with (go_at_call 47; refine hx.mono ?_; rintro e w8 ⟨rfl, hI8, hF8⟩)
            all_goals
              have S9 := Lib.hid (S3.out.put hI8 hF8)
              have K9 := Lib.hid (⟨(hKR.out.1.below (Below.refl _ _).drew).fr hKR.out.2.2.1 hF8, (hKR.out.2.1.below (Below.refl _ _).drew).fr hKR.out.2.2.2.1 hF8, hKR.out.2.2⟩ : KR w1.heap.size w8 u8 ks ∧ KR w1.heap.size w8 u9 vs ∧ Off g a u8 ∧ Off g a u9 ∧ Sep u8 u9)
              clear hI8 hF8 hx
              go_wp2_with fail
              go_meet
              case rel => exact ⟨l2, f2, at2, r2, x2, rfl, HP, S9, K9⟩
          case rest =>
            obtain ⟨l2, f2, at2, r2, x2, rfl, hP, hS2, hK2⟩ := hcut
            have CO := Kd.C_below C1.out hS2.out.b
            clear o0 o1 o2 o3 o4 o5 o6 hS hKR
            obtain ⟨ad2, hA, o0, o1, o2, o3, o4, o5, o6⟩ := at_op CO i HH.out.1
            obtain rfl := Option.some.inj hA
            clear hA CO
            rcases hP.out.errs with ⟨hx, hform⟩ | ⟨hx, hk, hv, h0⟩ | hx | hx
            · have hsame := hP.out.same (by omega)
              subst hx
              have HP2 := Lib.hid (And.intro hsame hform)
              clear hform hsame
              have hN2 : ∀ x : Ky, okB x.f0 x.f1 x.f2 = false → okN x.f0 x.f1 x.f2 = 2 := fun x hx => by unfold okN; rw [if_neg (by rw [hx]; exact Bool.false_ne_true)]
              have hN0 : ∀ x : Ky, okB x.f0 x.f1 x.f2 = true → okN x.f0 x.f1 x.f2 = 0 := fun x hx => by unfold okN; rw [if_pos hx]
              cases hk : okB (od ops i).key.f0 (od ops i).key.f1 (od ops i).key.f2 with
              | false =>
                have e1 := hN2 _ hk
                have HE1 := Lib.hid e1
                clear hk e1 hN2 hN0
                go_wp2_with fail
                refine (trestleref03_Check.calls _ _ _ 2 _ (by unfold trestleref03_Check.f; rw [HE1.out])).mono ?_
                rintro e w5 ⟨rfl, hb5⟩
                have S5 := Lib.hid (hS2.out.below hb5)
                have K5 := Lib.hid (⟨hK2.out.1.below hb5, hK2.out.2.1.below hb5, hK2.out.2.2⟩ : KR w1.heap.size w5 u8 ks ∧ KR w1.heap.size w5 u9 vs ∧ Off g a u8 ∧ Off g a u9 ∧ Sep u8 u9)
                clear hb5 o0 o1 o2 o3 o4 o5 o6
                go_wp2_with fail
                go_roundg k1
                case measure => omega
                case rel => exact ⟨i + 1, l2, f2, ks, vs, by go_num, by have := HH.out.2; omega, Lib.hid hP.out.inv, Lib.hid (by rw [HP2.out.1]; exact hM.out), S5, K5, Lib.hid (by have := hKL.out; omega)⟩
              | true =>
                have hv : okB (od ops i).val.f0 (od ops i).val.f1 (od ops i).val.f2 = false := by
                  rcases HP2.out.2 with e | e
                  · rw [hk] at e; cases e
                  · exact e
                have HE1 := Lib.hid (And.intro (hN0 _ hk) (hN2 _ hv))
                clear hk hv hN2 hN0
                go_wp2_with fail
                refine (trestleref03_Check.calls _ _ _ 0 _ (by unfold trestleref03_Check.f; rw [HE1.out.1])).mono ?_
                rintro e w5 ⟨rfl, hb5⟩
                have S5 := Lib.hid (hS2.out.below hb5)
                have K5 := Lib.hid (⟨hK2.out.1.below hb5, hK2.out.2.1.below hb5, hK2.out.2.2⟩ : KR w1.heap.size w5 u8 ks ∧ KR w1.heap.size w5 u9 vs ∧ Off g a u8 ∧ Off g a u9 ∧ Sep u8 u9)
                clear hb5 o0 o1 o2 o3 o4 o5 o6
                obtain ⟨ad3, hA, o0, o1, o2, o3, o4, o5, o6⟩ := at_op (Kd.C_below C1.out S5.out.b) i HH.out.1
                obtain rfl := Option.some.inj hA
                clear hA
                go_wp2_with fail
                refine (trestleref03_Check.calls _ _ _ 2 _ (by unfold trestleref03_Check.f; rw [HE1.out.2])).mono ?_
                rintro e w6 ⟨rfl, hb6⟩
                have S6 := Lib.hid (S5.out.below hb6)
                have K6 := Lib.hid (⟨K5.out.1.below hb6, K5.out.2.1.below hb6, K5.out.2.2⟩ : KR w1.heap.size w6 u8 ks ∧ KR w1.heap.size w6 u9 vs ∧ Off g a u8 ∧ Off g a u9 ∧ Sep u8 u9)
                clear hb6 o0 o1 o2 o3 o4 o5 o6
                go_wp2_with fail
                go_roundg k1
                case measure => omega
                case rel => exact ⟨i + 1, l2, f2, ks, vs, by go_num, by have := HH.out.2; omega, Lib.hid hP.out.inv, Lib.hid (by rw [HP2.out.1]; exact hM.out), S6, K6, Lib.hid (by have := hKL.out; omega)⟩
            · have hsame := hP.out.same (by omega)
              subst hx
              have HP2 := Lib.hid (And.intro hsame (And.intro hk hv))
              clear hsame
              have HE1 := Lib.hid (⟨by unfold okN; rw [if_pos hk], by unfold okN; rw [if_pos hv]⟩ : okN (od ops i).key.f0 (od ops i).key.f1 (od ops i).key.f2 = 0 ∧ okN (od ops i).val.f0 (od ops i).val.f1 (od ops i).val.f2 = 0)
              have H0 := Lib.hid h0
              clear hk hv h0
              go_wp2_with fail
              refine (trestleref03_Check.calls _ _ _ 0 _ (by unfold trestleref03_Check.f; rw [HE1.out.1])).mono ?_
              rintro e w5 ⟨rfl, hb5⟩
              have S5 := Lib.hid (hS2.out.below hb5)
              have K5 := Lib.hid (⟨hK2.out.1.below hb5, hK2.out.2.1.below hb5, hK2.out.2.2⟩ : KR w1.heap.size w5 u8 ks ∧ KR w1.heap.size w5 u9 vs ∧ Off g a u8 ∧ Off g a u9 ∧ Sep u8 u9)
              clear hb5 o0 o1 o2 o3 o4 o5 o6
              obtain ⟨ad3, hA, o0, o1, o2, o3, o4, o5, o6⟩ := at_op (Kd.C_below C1.out S5.out.b) i HH.out.1
              obtain rfl := Option.some.inj hA
              clear hA
              go_wp2_with fail
              refine (trestleref03_Check.calls _ _ _ 0 _ (by unfold trestleref03_Check.f; rw [HE1.out.2])).mono ?_
              rintro e w6 ⟨rfl, hb6⟩
              have S6 := Lib.hid (S5.out.below hb6)
              have K6 := Lib.hid (⟨K5.out.1.below hb6, K5.out.2.1.below hb6, K5.out.2.2⟩ : KR w1.heap.size w6 u8 ks ∧ KR w1.heap.size w6 u9 vs ∧ Off g a u8 ∧ Off g a u9 ∧ Sep u8 u9)
              clear hb6 o0 o1 o2 o3 o4 o5 o6
              obtain ⟨ad4, hA, o0, o1, o2, o3, o4, o5, o6⟩ := at_op (Kd.C_below C1.out S6.out.b) i HH.out.1
              obtain rfl := Option.some.inj hA
              rw [H0.out] at o1
              clear hA
              go_wp2_with fail
              go_roundg k1
              case measure => omega
              case rel => exact ⟨i + 1, l2, f2, ks, vs, by go_num, by have := HH.out.2; omega, Lib.hid hP.out.inv, Lib.hid (by rw [HP2.out.1]; exact hM.out), S6, K6, Lib.hid (by have := hKL.out; omega)⟩
            · have hsame := hP.out.same (by omega)
              subst hx
              have HP2 := Lib.hid hsame
              clear hsame
              go_wp2_with fail
              go_roundg k1
              case measure => omega
              case rel => exact ⟨i + 1, l2, f2, ks, vs, by go_num, by have := HH.out.2; omega, Lib.hid hP.out.inv, Lib.hid (by rw [HP2.out]; exact hM.out), hS2, hK2, Lib.hid (by have := hKL.out; omega)⟩
            · subst hx
              have HE := Lib.hid hP.out.eff
              obtain ⟨A8, c8, rfl⟩ := Kd.R_slice hK2.out.1
              obtain ⟨A9, c9, rfl⟩ := Kd.R_slice hK2.out.2.1
              have hkl : (ks.length : Int) ≤ 400 := by have := hKL.out; omega
              have hvl : vs.length = ks.length := hM.out.len.symm
              have HVL := Lib.hid hvl
              clear hvl o0 o1 o2 o3 o4 o5 o6
              go_wp2_with fail
              go_loopg [13, 14] ks.length (fun kq v13 v14 wx => ∃ (j : Nat) (at3 : Int), v14 = .int .i64 j ∧ v13 = .int .i64 at3 ∧ j + kq = ks.length ∧ RowKit.Hid (Seen ks (od ops i).key j at3) ∧ RowKit.Hid (St w1 g a cap l2 f2 wx) ∧ RowKit.Hid (KR w1.heap.size wx (.slice A8 ks.length c8) ks ∧ KR w1.heap.size wx (.slice A9 vs.length c9) vs ∧ Off g a (.slice A8 ks.length c8) ∧ Off g a (.slice A9 vs.length c9) ∧ Sep (.slice A8 ks.length c8) (.slice A9 vs.length c9)))
              case atStart => exact ⟨0, -1, rfl, rfl, by omega, Lib.hid (.inl ⟨rfl, fun t ht => by omega⟩), hS2, hK2⟩
              case round =>
                clear hS2 hK2
                obtain ⟨j, at3, rfl, rfl, hj, hsn, hS3, hK3⟩ := hrel
                cases gk with
                | succ k2 =>
                  have d4 : decide (j < ks.length) = true := decide_eq_true (by omega)
                  have d5 : decide ((j : Int) < (ks.length : Int)) = true := decide_eq_true (by omega)
                  have hjl : j < ks.length := by omega
                  have hj5 : (j : Int) ≤ 400 := by omega
                  have s1 : 0 ≤ (j : Int) := by omega
                  have s2 : (j : Int) < (ks.length : Int) := by omega
                  replace s1 := eq_true s1
                  replace s2 := eq_true s2
                  obtain ⟨ad3, hA, o0, o1, o2, o3, o4, o5, o6⟩ := at_op (Kd.C_below C1.out hS3.out.b) i HH.out.1
                  obtain rfl := Option.some.inj hA
                  obtain ⟨ad4, hA2, q0, q1, q2⟩ := at_kd hK3.out.1.reads.2 j hjl
                  have HA2 := Lib.hid hA2
                  subst hA2
                  have HJ := Lib.hid (And.intro hj hjl)
                  clear hA hj hjl
                  by_cases he : eqk (kd ks j) (od ops i).key = true
                  · have hk := eqk_true he
                    have HE2 := Lib.hid hk
                    rw [hk] at q0 q1 q2
                    clear he hk
                    go_wp2_with fail
                    go_quiet (fail)
                    go_wp2_with fail
                    go_roundg k2
                    case measure => omega
                    case rel => exact ⟨j + 1, j, by go_num, rfl, by have := HJ.out.1; omega, Lib.hid (Seen.hit HE2.out), Lib.hid (hS3.out.below (pw_below_drewN (Below.refl _ _) _)), Lib.hid ⟨hK3.out.1.below (pw_below_drewN (Below.refl _ _) _), hK3.out.2.1.below (pw_below_drewN (Below.refl _ _) _), hK3.out.2.2⟩⟩
                  · have he' : eqk (kd ks j) (od ops i).key = false := by simpa using he
                    have HE2 := Lib.hid (fun e => he (eqk_iff.2 e) : kd ks j ≠ (od ops i).key)
                    rcases eqk_false he' with b0 | ⟨b0, b1⟩ | ⟨b0, b1, b2⟩
                    all_goals (first | (have c0 := beq_eq_false_iff_ne.2 b0; have c1 := decide_eq_false b0; have c2 := eq_false b0) | (rw [b0] at q0))
                    all_goals (try (first | (have c3 := beq_eq_false_iff_ne.2 b1; have c4 := decide_eq_false b1; have c5 := eq_false b1) | (rw [b1] at q1)))
                    all_goals (try (have c6 := decide_eq_false (beq_eq_false_iff_ne.1 b2)))
                    all_goals
                      clear he he'
                      go_wp2_with fail
                      go_quiet (fail)
                      go_wp2_with fail
                      go_roundg k2
                      case measure => omega
                      case rel => exact ⟨j + 1, at3, by go_num, rfl, by have := HJ.out.1; omega, Lib.hid (hsn.out.miss HE2.out), Lib.hid (hS3.out.below (pw_below_drewN (Below.refl _ _) _)), Lib.hid ⟨hK3.out.1.below (pw_below_drewN (Below.refl _ _) _), hK3.out.2.1.below (pw_below_drewN (Below.refl _ _) _), hK3.out.2.2⟩⟩
                | zero =>
                  have d4 : decide (j < ks.length) = false := decide_eq_false (by omega)
                  have d5 : decide ((j : Int) < (ks.length : Int)) = false := decide_eq_false (by omega)
                  have hjk : j = ks.length := by omega
                  have HS2 := hsn.out
                  rw [hjk] at HS2
                  clear hj hjk
                  rcases HS2 with ⟨rfl, hno⟩ | ⟨t, ht, rfl, hkt⟩
                  · have d6 : decide ((-1 : Int) < 0) = true := by decide
                    have HNO := Lib.hid hno
                    clear hno
                    go_upto_region 22 with (fail)
                    have R0 := Lib.hid (⟨hS3.out, hK3.out.1, hK3.out.2.1, hK3.out.2.2.1, hK3.out.2.2.2.1, hK3.out.2.2.2.2⟩ : RowsM w1 g a cap l2 f2 wr (.slice A8 ks.length c8) ks (.slice A9 vs.length c9) vs)
                    obtain ⟨ad3, hA, o0, o1, o2, o3, o4, o5, o6⟩ := at_op (Kd.C_below C1.out hS3.out.b) i HH.out.1
                    obtain rfl := Option.some.inj hA
                    have HKL := Lib.hid (⟨by omega, by have := HVL.out; omega⟩ : ks.length ≤ 400 ∧ vs.length ≤ 400)
                    clear hA o0
                    go_region_held3 (fun w' => w'.cell? ⟨(ad.add (i * 7)).block, (ad.add (i * 7)).off + 1, none⟩ = some (.int .i64 (od ops i).key.f0) ∧ w'.cell? ⟨(ad.add (i * 7)).block, (ad.add (i * 7)).off + 2, none⟩ = some (.int .i64 (od ops i).key.f1) ∧ w'.cell? ⟨(ad.add (i * 7)).block, (ad.add (i * 7)).off + 3, none⟩ = some (.string (od ops i).key.f2) ∧
                      w'.cell? ⟨(ad.add (i * 7)).block, (ad.add (i * 7)).off + 4, none⟩ = some (.int .i64 (od ops i).val.f0) ∧ w'.cell? ⟨(ad.add (i * 7)).block, (ad.add (i * 7)).off + 5, none⟩ = some (.int .i64 (od ops i).val.f1) ∧ w'.cell? ⟨(ad.add (i * 7)).block, (ad.add (i * 7)).off + 6, none⟩ = some (.string (od ops i).val.f2))
                      (first | go_keep | exact opS (Kd.C_below C1.out hRA.st.b) HH.out.1 | exact opS (Kd.C_below C1.out hRK.st.b) HH.out.1 | exact opS (Kd.C_below C1.out hRV.st.b) HH.out.1)
                      (first
                        | (refine app_step (by rfl) (.tmp 112) (.tmp 118) (by rfl) (hRV.swap.below (by repeat (first | exact Below.refl _ _ | exact (Below.refl _ _).drew | apply below_alloc | apply below_drew1))) (od ops i).key _ (by rfl) (by rfl) (by first | exact heap_alloc_new _ _ | exact blk_new2 _ _ _ | exact blk_alloc (heap_alloc_new _ _) _ | exact (hfr _ (by simp <;> omega) (by simp <;> omega)).trans (blk_new2 _ _ _) | exact (hfr _ (by simp <;> omega) (by simp <;> omega)).trans (blk_alloc (heap_alloc_new _ _) _)) HKL.out.1 _ (fun k hk => hRV.k9.lt hk) ?_; intro v2 w4 hRA hfr2 hsz2)
                        | (refine app_step (by rfl) (.tmp 120) (.tmp 126) (by rfl) (hRK.swap.below (by repeat (first | exact Below.refl _ _ | exact (Below.refl _ _).drew | apply below_alloc | apply below_drew1))) (od ops i).val _ (by rfl) (by rfl) (by first | exact heap_alloc_new _ _ | exact blk_new2 _ _ _ | exact blk_alloc (heap_alloc_new _ _) _ | exact (hfr _ (by simp <;> omega) (by simp <;> omega)).trans (blk_new2 _ _ _) | exact (hfr _ (by simp <;> omega) (by simp <;> omega)).trans (blk_alloc (heap_alloc_new _ _) _)) HKL.out.2 _ (fun k hk => hRK.k9.lt hk) ?_; intro v2 w4 hRA0 hfr2 hsz2; have hRA := hRA0.swap; clear hRA0)
                        | (refine app_step (by rfl) (.tmp 112) (.tmp 118) (by rfl) (R0.out.below (by repeat (first | exact Below.refl _ _ | exact (Below.refl _ _).drew | apply below_alloc | apply below_drew1))) (od ops i).key _ (by rfl) (by rfl) (by first | exact heap_alloc_new _ _ | exact blk_new2 _ _ _ | exact blk_alloc (heap_alloc_new _ _) _ | exact (hfr _ (by simp <;> omega) (by simp <;> omega)).trans (blk_new2 _ _ _) | exact (hfr _ (by simp <;> omega) (by simp <;> omega)).trans (blk_alloc (heap_alloc_new _ _) _)) HKL.out.1 wr.heap.size (fun k hk => R0.out.k8.lt hk) ?_; intro v1 w3 hRK hfr hsz)
                        | (refine app_step (by rfl) (.tmp 120) (.tmp 126) (by rfl) (R0.out.swap.below (by repeat (first | exact Below.refl _ _ | exact (Below.refl _ _).drew | apply below_alloc | apply below_drew1))) (od ops i).val _ (by rfl) (by rfl) (by first | exact heap_alloc_new _ _ | exact blk_new2 _ _ _ | exact blk_alloc (heap_alloc_new _ _) _ | exact (hfr _ (by simp <;> omega) (by simp <;> omega)).trans (blk_new2 _ _ _) | exact (hfr _ (by simp <;> omega) (by simp <;> omega)).trans (blk_alloc (heap_alloc_new _ _) _)) HKL.out.2 wr.heap.size (fun k hk => R0.out.k9.lt hk) ?_; intro v1 w3 hRV hfr hsz))
                    all_goals
                      have RA := Lib.hid hRA
                      clear hRA
                      go_wp2_with fail
                      go_roundg k1
                      case measure => omega
                      case rel => exact ⟨i + 1, l2, f2, ks ++ [(od ops i).key], vs ++ [(od ops i).val], by go_num, by have := HH.out.2; omega, Lib.hid hP.out.inv, Lib.hid (hM.out.new HE.out HNO.out), Lib.hid RA.out.st, Lib.hid ⟨RA.out.k8, RA.out.k9, RA.out.o8, RA.out.o9, RA.out.sep⟩, Lib.hid (by rw [List.length_append, List.length_singleton]; have := hKL.out; omega)⟩
                  · have d6 : decide ((t : Int) < 0) = false := decide_eq_false (by omega)
                    have HT := Lib.hid (And.intro ht hkt)
                    have ht5 : (t : Int) ≤ 400 := by omega
                    have hvl := HVL.out
                    have s1 : 0 ≤ (t : Int) := by omega
                    have s2 : (t : Int) < (vs.length : Int) := by omega
                    replace s1 := eq_true s1
                    replace s2 := eq_true s2
                    obtain ⟨ad3, hA, o0, o1, o2, o3, o4, o5, o6⟩ := at_op (Kd.C_below C1.out hS3.out.b) i HH.out.1
                    obtain rfl := Option.some.inj hA
                    clear hA ht hkt hvl
                    obtain ⟨b9, hA9⟩ := hK3.out.2.1.addr (by have := HVL.out; have := HT.out.1; omega)
                    subst hA9
                    have R0 := Lib.hid (⟨hS3.out, hK3.out.1, hK3.out.2.1, hK3.out.2.2.1, hK3.out.2.2.2.1, hK3.out.2.2.2.2⟩ : RowsM w1 g a cap l2 f2 wr (.slice A8 ks.length c8) ks (.slice (some ⟨b9, 0, none⟩) vs.length c9) vs)
                    go_wp2_with (refine R0.out.store rfl rfl (.tmp 135) (.tmp 134) rfl t (by have := HVL.out; have := HT.out.1; omega) (od ops i).val rfl rfl ?_)
                    intro w4 hRA
                    have RA := Lib.hid hRA
                    clear hRA
                    go_wp2_with fail
                    go_roundg k1
                    case measure => omega
                    case rel => exact ⟨i + 1, l2, f2, ks, vs.set t (od ops i).val, by go_num, by have := HH.out.2; omega, Lib.hid hP.out.inv, Lib.hid (hM.out.set HE.out HT.out.1 HT.out.2), Lib.hid RA.out.st, Lib.hid ⟨RA.out.k8, RA.out.k9, RA.out.o8, RA.out.o9, RA.out.sep⟩, Lib.hid (by have := hKL.out; omega)⟩
        · have d3 : decide ((i : Int) < 400) = false := decide_eq_false (by omega)
          go_wp2_with fail
          go_meet
          case rel => exact ⟨l, f, ks, vs, hI, hM, hS, Lib.hid ⟨hKR.out.1, hKR.out.2.1⟩, by have := hKL.out; omega⟩
  case rest =>
    obtain ⟨l, f, ks, vs, hI, hM, hS, hKR, hkl⟩ := hcut
    obtain ⟨A8, c8, rfl⟩ := Kd.R_slice hKR.out.1
    obtain ⟨A9, c9, rfl⟩ := Kd.R_slice hKR.out.2
    have K8 := Lib.hid hKR.out.1.reads.2
    have K9 := Lib.hid hKR.out.2.reads.2
    have HVL := Lib.hid hM.out.len
    clear hKR S2
    go_wp2_with fail
    go_loopg [15, 16, 17] ks.length (fun kq v15 v16 v17 wr => ∃ j : Nat, v15 = .int .i64 j ∧ j + kq = ks.length ∧ RowKit.Hid (St w1 g a cap l f wr) ∧ RowKit.Hid (Kd.C k30 wr A8 ks.length ks) ∧ RowKit.Hid (Kd.C k30 wr A9 vs.length vs))
    case atStart => exact ⟨0, rfl, by omega, hS, K8, K9⟩
    case round =>
      clear hS K8 K9
      obtain ⟨j, rfl, hj, hS, h8, h9⟩ := hrel
      cases gk with
      | zero =>
        have d4 : decide (j < ks.length) = false := decide_eq_false (by omega)
        have d5 : decide ((j : Int) < (ks.length : Int)) = false := decide_eq_false (by omega)
        go_wp2_with fail
        go_ret
        exact ⟨rfl, B1.out.trans (hS.out.b.mono B1.out.size)⟩
      | succ k2 =>
        have d4 : decide (j < ks.length) = true := decide_eq_true (by omega)
        have d5 : decide ((j : Int) < (ks.length : Int)) = true := decide_eq_true (by omega)
        have hjl : j < ks.length := by omega
        have hvl := HVL.out
        have hj5 : (j : Int) ≤ 400 := by omega
        have s1 : 0 ≤ (j : Int) := by omega
        have s2 : (j : Int) < (ks.length : Int) := by omega
        have s3 : (j : Int) < (vs.length : Int) := by omega
        replace s1 := eq_true s1
        replace s2 := eq_true s2
        replace s3 := eq_true s3
        obtain ⟨ad1, hA, q0, q1, q2⟩ := at_kd h8.out j hjl
        subst hA
        obtain ⟨at_, r, hF⟩ := hI.out.find (kd ks j)
        have hval := hM.out.get hI.out hjl hF
        have HJ := Lib.hid (And.intro hj hjl)
        have HF := Lib.hid hF
        have HV := Lib.hid hval
        clear hj hjl hF hval hvl
        go_wp2_with fail
        have hx := get_call hS.out.p (kd ks j) at_ r HF.out.c HF.out.lo
        rw [HV.out] at hx
        unfold kv at hx
        refine hx.mono ?_
        rintro e w4 ⟨rfl, hb4⟩
        obtain ⟨w5, hw5, hb5, hM5⟩ : ∃ w5, w4.alloc (.cells #[.int .i64 (kd vs j).f0, .int .i64 (kd vs j).f1, .string (kd vs j).f2] 30) = w5 ∧ Below w4.heap.size w4 w5 ∧ w5.heap[w4.heap.size]? = some (.cells #[.int .i64 (kd vs j).f0, .int .i64 (kd vs j).f1, .string (kd vs j).f2] 30 (0, 0)) :=
          ⟨_, rfl, (Below.refl _ _).alloc (Nat.le_refl _) _, heap_alloc_new _ _⟩
        have S5 := Lib.hid ((hS.out.below hb4).below hb5)
        have H8 := Lib.hid (Kd.C_below (Kd.C_below h8.out hb4) hb5)
        have H9 := Lib.hid (Kd.C_below (Kd.C_below h9.out hb4) hb5)
        have M5 := Lib.hid hM5
        have W5 := Lib.hid hw5
        clear hx hb4 hb5 hS h8 h9 q0 q1 q2 hM5 hw5
        go_upto_region 28 with (fail)
        rw [W5.out]
        obtain ⟨ad2, hA, q0, q1, q2⟩ := at_kd H9.out j (by have := HJ.out.2; have := HVL.out; omega)
        subst hA
        obtain ⟨m0, m1, m2⟩ := three_of M5.out
        go_quiet (fail)
        go_wp2_with fail
        go_roundg k2
        case measure => omega
        case rel => exact ⟨j + 1, by go_num, by have := HJ.out.1; omega, Lib.hid (S5.out.below (pw_below_drewN (Below.refl _ _) _)), Lib.hid (Kd.C_below H8.out (pw_below_drewN (Below.refl _ _) _)), Lib.hid (Kd.C_below H9.out (pw_below_drewN (Below.refl _ _) _))⟩
set_option maxHeartbeats 8000000 in
set_option maxRecDepth 100000 in
theorem map_no (w : World) (s : Int) (hs : -9223372036854775808 ≤ s ∧ s ≤ 9223372036854775807) (h : ¬ (RightN s ∧ s ≤ 4096)) (A : Option Addr) (c n : Nat) :
    Calls Try.prog 15 #[.int .i64 s, .slice A n c] w fun e w' => e = .returned (.bool true) ∧ Below w.heap.size w w' := by
  have hb : ¬ RightN s ∨ 4096 < s := by
    by_cases hR : RightN s
    · exact .inr (by
        by_cases h4 : s ≤ 4096
        · exact absurd ⟨hR, h4⟩ h
        · omega)
    · exact .inl hR
  obtain ⟨r, hr, hrt⟩ := right_any hs
  cases r with
  | false =>
    have HB := Lib.hid hb
    have HS := Lib.hid hs
    have HR := Lib.hid hr
    clear h hb hs hr hrt
    go_enter Try.func15, Try.ntmps15
    go_wp2_with fail
    refine (fixed_call w).mono ?_
    rintro e w1 ⟨rfl, hb1⟩
    have B1 := Lib.hid hb1
    clear hb1
    go_wp2_with fail
    refine (begin_no w1 s HS.out HB.out).mono ?_
    rintro e w2 ⟨rfl, hb2⟩
    have B2 := Lib.hid (B1.out.trans (hb2.mono B1.out.size))
    clear hb2
    go_wp2_with fail
    refine (trestleref07_Right.calls 18 s false _ HR.out).mono ?_
    rintro e w3 ⟨rfl, nd1, rfl⟩
    go_wp2_with fail
    go_ret
    exact ⟨rfl, pw_below_drewN B2.out nd1⟩
  | true =>
    have HB := Lib.hid hb
    have HS := Lib.hid hs
    have HR := Lib.hid hr
    have h2 : 4096 < s := hb.resolve_left (fun e => e (hrt.1 rfl))
    have d1 : decide (s > 4096) = true := decide_eq_true (by omega)
    have d2 : decide (4096 < s) = true := decide_eq_true (by omega)
    clear h hb hs hr hrt h2
    go_enter Try.func15, Try.ntmps15
    go_wp2_with fail
    refine (fixed_call w).mono ?_
    rintro e w1 ⟨rfl, hb1⟩
    have B1 := Lib.hid hb1
    clear hb1
    go_wp2_with fail
    refine (begin_no w1 s HS.out HB.out).mono ?_
    rintro e w2 ⟨rfl, hb2⟩
    have B2 := Lib.hid (B1.out.trans (hb2.mono B1.out.size))
    clear hb2
    go_wp2_with fail
    refine (trestleref07_Right.calls 18 s true _ HR.out).mono ?_
    rintro e w3 ⟨rfl, nd1, rfl⟩
    go_wp2_with fail
    go_ret
    exact ⟨rfl, pw_below_drewN B2.out nd1⟩
theorem nodesMap_any (w : World) (s : Int) (hs : -9223372036854775808 ≤ s ∧ s ≤ 9223372036854775807) (A : Option Addr) (c : Nat) (ops : List OpD) (hr : Kd.C kO w A ops.length ops) (hc : ops.length ≤ c) :
    Calls Try.prog 15 #[.int .i64 s, .slice A ops.length c] w fun e w' => e = .returned (.bool true) ∧ Below w.heap.size w w' := by
  by_cases h : RightN s ∧ s ≤ 4096
  · obtain ⟨h1, h2⟩ := h
    have h0 : 0 ≤ s := by
      rcases h1 with e | e
      · omega
      · have := pow_range e; omega
    obtain ⟨k, rfl⟩ : ∃ k : Nat, s = k := ⟨s.toNat, by omega⟩
    exact map_yes w k h1 (by omega) A c ops hr hc
  · exact map_no w s hs h A c ops.length
end Go.Proofs.Ytlmmhlabacghnaa.PH
