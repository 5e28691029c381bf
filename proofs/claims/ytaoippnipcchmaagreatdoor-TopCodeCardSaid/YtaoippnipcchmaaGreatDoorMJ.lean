import Derived.Test.YtaoippnipcchmaaGreatDoorMI
import Derived.Test.YtaoippnipcchmaaGreatDoorMG
import Derived.Test.YtaoippnipcchmaaGreatDoorPTx14
import Derived.Test.YtaoippnipcchmaaGreatDoorPTx11
import Derived.Test.YtaoippnipcchmaaGreatDoorGA
import Derived.Test.YtaoippnipcchmaaGreatDoorMA
/- TopCode: the text of an expression in tokens; Gen of it. -/
namespace Go.Proofs.YtaoippnipcchmaaGreatDoor.PT
open Go.RowKit Go.Proofs.YtaoippnipcchmaaGreatDoorW.PrintWords Go.Proofs.YtaoippnipcchmaaGreatDoorW.PrintLast Go.Proofs.YtaoippnipcchmaaGreatDoorW.PrintMore
open Go.Proofs.YtaoippnipcchmaaGreatDoor.TP
set_option linter.unusedVariables false
set_option linter.unusedSimpArgs false

theorem digF_spec : ∀ (k n : Nat) (acc : List UInt8), n < 10 ^ k → (∀ b ∈ acc, digitB b.toNat = true) →
    (∀ b ∈ digF k n acc, digitB b.toNat = true) ∧ (digF k n acc).length ≤ k + acc.length ∧ (digF k n acc).foldl (fun n b => 10 * n + (b.toNat - 48)) 0 = acc.foldl (fun n b => 10 * n + (b.toNat - 48)) n ∧ (0 < n → digF k n acc ≠ [])
  | 0, n, acc, hn, ha => by
    have h0 : n = 0 := by simp at hn; exact hn
    subst h0
    exact ⟨ha, by simp [digF], rfl, fun h => absurd h (by omega)⟩
  | k + 1, n, acc, hn, ha => by
    unfold digF
    by_cases h0 : n = 0
    · subst h0
      rw [if_pos rfl]
      exact ⟨ha, by omega, rfl, fun h => absurd h (by omega)⟩
    · rw [if_neg h0]
      have hd : (UInt8.ofNat (48 + n % 10)).toNat = 48 + n % 10 := by
        rw [UInt8.toNat_ofNat']
        omega
      have hdB : digitB (UInt8.ofNat (48 + n % 10)).toNat = true := by
        rw [hd]
        simp only [digitB, decide_eq_true_eq]
        omega
      have hn10 : n / 10 < 10 ^ k := by rw [Nat.pow_succ] at hn; omega
      obtain ⟨h1, h2, h3, h4⟩ := digF_spec k (n / 10) (UInt8.ofNat (48 + n % 10) :: acc) hn10 (fun b hb => by
        rcases List.mem_cons.1 hb with rfl | hb
        · exact hdB
        · exact ha b hb)
      refine ⟨h1, by rw [List.length_cons] at h2; omega, ?_, fun _ => ?_⟩
      · rw [h3, List.foldl_cons, hd]
        congr 1
        omega
      · by_cases hz : n / 10 = 0
        · intro e
          cases k with
          | zero => rw [hz] at e; simp [digF] at e
          | succ k => rw [hz] at e; simp [digF] at e
        · exact h4 (by omega)
theorem dig_spec (n : Nat) (h : n < 1048576) : (∀ b ∈ dig n, digitB b.toNat = true) ∧ dig n ≠ [] ∧ (dig n).length ≤ 8 ∧ numV (dig n) = n := by
  unfold dig
  by_cases h0 : n = 0
  · subst h0
    rw [if_pos rfl]
    exact ⟨by decide, by simp, by simp, rfl⟩
  · rw [if_neg h0]
    obtain ⟨h1, h2, h3, h4⟩ := digF_spec 8 n [] (by omega) (fun b hb => by simp at hb)
    exact ⟨h1, h4 (by omega), h2, h3⟩
/-- What may follow a number or a word. -/
def Ends (l : List UInt8) : Prop := ∀ b, l.head? = some b → b = 32 ∨ b = 41
theorem Ends.part {l : List UInt8} (h : Ends l) : ∀ b, l.head? = some b → partB b.toNat = false := fun b hb => by rcases h b hb with rfl | rfl <;> decide
theorem good_lx (e : Ex) : e.ok → ∀ (p : List UInt8) (m : List (List UInt8 × Tok)), (∀ b ∈ p, blankB b.toNat = true) → Good m → Ends (flat m) → Good (e.lx p ++ m) := by
  induction e with
  | num n =>
    intro hok p m hp hm he
    obtain ⟨h1, h2, h3, h4⟩ := dig_spec n hok
    exact ⟨hp, .num h1 h2 h3 h4 he.part, hm⟩
  | op o a b iha ihb =>
    rintro ⟨ho, ha, hb⟩ p m hp hm he
    have hbl : ∀ b ∈ ([32] : List UInt8), blankB b.toNat = true := by decide
    have h1 : Good (b.lx [32] ++ (([], tClose) :: m)) := ihb hb [32] _ hbl ⟨fun b hb => by simp at hb, .sign (.inr (.inl rfl)) (.inl (by decide)), hm⟩ (fun b hb => by rw [flat_cons] at hb; simp [tClose] at hb; exact .inr hb.symm)
    have hfb : flat (b.lx [32] ++ (([], tClose) :: m)) = 32 :: (b.str ++ flat (([], tClose) :: m)) := by rw [flat_append, flat_lx]; rfl
    have h2 : Good (([32], tOp o) :: (b.lx [32] ++ (([], tClose) :: m))) := by
      refine ⟨hbl, ?_, h1⟩
      rw [hfb]
      have hs : ∀ c, (32 :: (b.str ++ flat (([], tClose) :: m))).head? = some c → partB c.toNat = false := fun c hc => by obtain rfl := Option.some.inj hc; decide
      rcases ho with rfl | rfl | rfl | rfl | rfl
      · exact .sign (.inr (.inr (.inl rfl))) (.inl (by decide))
      · exact .sign (.inr (.inr (.inr (.inl rfl)))) (.inr (by simp))
      · exact .sign (.inr (.inr (.inr (.inr rfl)))) (.inl (by decide))
      · exact .word (.inr (.inl rfl)) hs
      · exact .word (.inr (.inr rfl)) hs
    have h3 := iha ha [] _ (fun b hb => by simp at hb) h2 (fun c hc => by rw [flat_cons] at hc; exact .inl (Option.some.inj hc).symm)
    have e1 : Ex.lx p (.op o a b) ++ m = (p, tOpen) :: (a.lx [] ++ (([32], tOp o) :: (b.lx [32] ++ (([], tClose) :: m)))) := by simp [Ex.lx]
    rw [e1]
    exact ⟨hp, .sign (.inl rfl) (.inl (by decide)), h3⟩
  | neg a ih =>
    intro hok p m hp hm he
    have hbl : ∀ b ∈ ([32] : List UInt8), blankB b.toNat = true := by decide
    have h1 : Good (a.lx [32] ++ (([], tClose) :: m)) := ih hok [32] _ hbl ⟨fun b hb => by simp at hb, .sign (.inr (.inl rfl)) (.inl (by decide)), hm⟩ (fun b hb => by rw [flat_cons] at hb; simp [tClose] at hb; exact .inr hb.symm)
    have hfb : flat (a.lx [32] ++ (([], tClose) :: m)) = 32 :: (a.str ++ flat (([], tClose) :: m)) := by rw [flat_append, flat_lx]; rfl
    have e1 : Ex.lx p (.neg a) ++ m = (p, tOpen) :: (([], tMinus) :: (a.lx [32] ++ (([], tClose) :: m))) := by simp [Ex.lx]
    rw [e1]
    refine ⟨hp, .sign (.inl rfl) (.inl (by decide)), fun b hb => by simp at hb, ?_, h1⟩
    rw [hfb]
    exact .sign (.inr (.inr (.inr (.inl rfl)))) (.inr (by simp))
/-- The text of `return e`. -/
def srcL (e : Ex) : List UInt8 := [114, 101, 116, 117, 114, 110, 32] ++ e.str
def lxAll (e : Ex) : List (List UInt8 × Tok) := ([], tRet) :: e.lx [32]
theorem flat_all (e : Ex) : flat (lxAll e) = srcL e := by
  unfold lxAll srcL
  rw [flat_cons, flat_lx]
  rfl
theorem good_all (e : Ex) (hok : e.ok) : Good (lxAll e) := by
  have h := good_lx e hok [32] [] (by decide) trivial (fun b hb => by simp [flat_nil] at hb)
  rw [List.append_nil] at h
  refine ⟨fun b hb => by simp at hb, .word (.inl rfl) (fun b hb => ?_), h⟩
  rw [flat_lx] at hb
  obtain rfl := Option.some.inj hb
  decide
theorem str_len (e : Ex) : e.ok → e.str.length ≤ 15 * e.ops + 8 := by
  induction e with
  | num n => intro hok; have := (dig_spec n hok).2.2.1; simp only [Ex.str, Ex.ops]; omega
  | op o a b iha ihb =>
    rintro ⟨ho, ha, hb⟩
    have h1 := iha ha
    have h2 := ihb hb
    have h3 : (opT o).length ≤ 3 := by rcases ho with rfl | rfl | rfl | rfl | rfl <;> decide
    simp only [Ex.str, Ex.ops, List.length_append, List.length_cons, List.length_nil]
    omega
  | neg a ih =>
    intro hok
    have h1 := ih hok
    simp only [Ex.str, Ex.ops, List.length_append, List.length_cons, List.length_nil]
    omega
theorem toks_len (e : Ex) : e.toks.length ≤ 4 * e.ops + 1 := by
  induction e with
  | num n => simp [Ex.toks]
  | op o a b iha ihb => simp only [Ex.toks, Ex.ops, List.length_append, List.length_cons, List.length_nil]; omega
  | neg a ih => simp only [Ex.toks, Ex.ops, List.length_append, List.length_cons, List.length_nil]; omega
/-- Scan of it, in the words of Parse's contract. -/
theorem scan_ex (e : Ex) (hok : e.ok) (hops : e.ops ≤ 200) (w : World) (hT : Tabs w) : Calls Tryz.prog 15 #[.string (bs (srcL e))] w (ScanRes e w) := by
  have h1 := str_len e hok
  have h2 := toks_len e
  have h3 : (e.lx [32]).length = e.toks.length := by have := congrArg List.length (toks_lx e [32]); rw [List.length_map] at this; exact this
  have h4 : (lxAll e).map (·.2) ++ [tEnd] = tRet :: (e.toks ++ [tEnd]) := by unfold lxAll; rw [List.map_cons, toks_lx]; rfl
  have hx := scan_call (lxAll e) (good_all e hok) (by rw [flat_all]; unfold srcL; rw [List.length_append]; simp; omega) (by unfold lxAll; rw [List.length_cons, h3]; omega) w hT
  rw [flat_all, h4] at hx
  exact hx
/-- Gen of it. -/
theorem gen_ex_call (e : Ex) (hok : e.ok) (hops : e.ops ≤ 200) (hhi : e.high ≤ 40) (w : World) (hT : Tabs w) :
    Calls Tryz.prog 5 #[.string (bs (srcL e))] w fun r w' => ∃ line : Int, ∃ v, r = .returned (.tuple #[v, .agg #[.int .i64 0, .int .i64 0]]) ∧ ProgOk w' (e.cons []) (codeOf line (e.cons []) e) v ∧ Below w.heap.size w w' := by
  have h1 := str_len e hok
  exact gen_call e hok (by omega) hhi (bs (srcL e)) (by rw [bs_size]; unfold srcL; rw [List.length_append]; simp; omega) w (fun W hW => scan_ex e hok hops W (hT.below hW))
end Go.Proofs.YtaoippnipcchmaaGreatDoor.PT
/- TopCode, plain: the decimal text of a number; an expression out of the terms. -/
namespace Go.Proofs.YtaoippnipcchmaaGreatDoor.PT
open Go.RowKit Go.Proofs.YtaoippnipcchmaaGreatDoorW.PrintWords Go.Proofs.YtaoippnipcchmaaGreatDoorW.PrintLast Go.Proofs.YtaoippnipcchmaaGreatDoorW.PrintMore
open Go.Proofs.YtaoippnipcchmaaGreatDoor.TP
set_option linter.unusedVariables false
set_option linter.unusedSimpArgs false

theorem and20 (n : Int) : Go.bits .and .i64 n 1048575 = n % 1048576 := by
  have h20 : (BitVec.ofInt 64 1048575).toNat = 2 ^ 20 - 1 := by decide
  have key : (BitVec.ofInt 64 n &&& BitVec.ofInt 64 1048575).toNat = (n % ((2 ^ 64 : Nat) : Int)).toNat % 2 ^ 20 := by
    rw [BitVec.toNat_and, BitVec.toNat_ofInt, h20, Nat.and_two_pow_sub_one_eq_mod]
  show IntKind.i64.wrap ((BitVec.ofInt 64 n &&& BitVec.ofInt 64 1048575).toNat : Nat) = n % 1048576
  rw [key, IntKind.wrap_i64]
  omega
/-- The digits from the last one on. -/
def rdigF : Nat → Nat → List Int
  | 0, _ => []
  | j + 1, m => if m = 0 then [] else ((48 + m % 10 : Nat) : Int) :: rdigF j (m / 10)
theorem digF_rdig : ∀ (j m : Nat) (acc : List UInt8), digF j m acc = ((rdigF j m).reverse.map fun n => UInt8.ofNat n.toNat) ++ acc
  | 0, m, acc => by simp [digF, rdigF]
  | j + 1, m, acc => by
    unfold digF rdigF
    by_cases h : m = 0
    · rw [if_pos h, if_pos h]; simp
    · rw [if_neg h, if_neg h, digF_rdig j (m / 10), List.reverse_cons, List.map_append, List.append_assoc]
      rfl
theorem rdig_len : ∀ (j m : Nat), (rdigF j m).length ≤ j
  | 0, m => by simp [rdigF]
  | j + 1, m => by
    unfold rdigF
    split
    · simp
    · have := rdig_len j (m / 10); simp only [List.length_cons]; omega
theorem rev_le (q : Nat) : ∀ (xs : List Int), xs.length ≤ 7 → trestleref02_Format.l1 (q + 12) xs 0 = some (strOfNums xs.reverse)
  | [], _ => by kernel_rfl
  | [a], _ => by kernel_rfl
  | [a, b], _ => by kernel_rfl
  | [a, b, c], _ => by kernel_rfl
  | [a, b, c, d], _ => by kernel_rfl
  | [a, b, c, d, e], _ => by kernel_rfl
  | [a, b, c, d, e, f], _ => by kernel_rfl
  | [a, b, c, d, e, f, g], _ => by kernel_rfl
  | a :: b :: c :: d :: e :: f :: g :: h :: l, hl => by simp at hl
theorem l0_spec : ∀ (j m : Nat) (acc : List Int) (q : Nat) (n : Int), m < 10 ^ j → acc.length + j ≤ 7 → 0 ≤ n → trestleref02_Format.l0 (q + j + 14) n acc (m : Int) = some (strOfNums (acc ++ rdigF j m).reverse)
  | 0, m, acc, q, n, hm, hl, hn => by
    have h0 : m = 0 := by simp at hm; exact hm
    subst h0
    show trestleref02_Format.l0 (q + 13 + 1) n acc 0 = _
    unfold trestleref02_Format.l0
    rw [if_pos rfl, if_neg (by omega)]
    show trestleref02_Format.l1 (q + 12) acc 0 = _
    rw [rev_le q acc (by omega)]
    simp [rdigF]
  | j + 1, m, acc, q, n, hm, hl, hn => by
    show trestleref02_Format.l0 ((q + j + 14) + 1) n acc (m : Int) = _
    unfold trestleref02_Format.l0 rdigF
    by_cases h : m = 0
    · subst h
      rw [if_pos (show ((0 : Nat) : Int) = 0 from rfl), if_neg (by omega), if_pos (show (0 : Nat) = 0 from rfl)]
      show trestleref02_Format.l1 (q + j + 1 + 12) acc 0 = _
      rw [rev_le (q + j + 1) acc (by omega)]
      simp
    · have hm10 : m / 10 < 10 ^ j := by rw [Nat.pow_succ] at hm; omega
      have hb : 10 ^ (j + 1) ≤ 10 ^ 7 := Nat.pow_le_pow_right (by omega) (by omega)
      have hm7 : m < 10000000 := Nat.lt_of_lt_of_le hm hb
      clear hm hb
      have ht : Int.tmod (m : Int) 10 = ((m % 10 : Nat) : Int) := by
        rw [Int.tmod_eq_emod_of_nonneg (by omega)]
        omega
      have hd : Int.tdiv (m : Int) 10 = ((m / 10 : Nat) : Int) := by
        rw [Int.tdiv_eq_ediv_of_nonneg (by omega)]
        omega
      have hw1 : wrap64 (48 + ((m % 10 : Nat) : Int)) % 256 = ((48 + m % 10 : Nat) : Int) := by
        rw [IntWalk.wrap64_in _ (by omega)]
        omega
      have hw2 : wrap64 ((m / 10 : Nat) : Int) = ((m / 10 : Nat) : Int) := IntWalk.wrap64_in _ (by omega)
      have e1 : ¬ (m : Int) = 0 := fun e => h (Int.ofNat.inj e)
      have e2 : ¬ ((m % 10 : Nat) : Int) < 0 := Int.not_lt.2 (Int.natCast_nonneg _)
      have e3 : acc.length < 140737488355328 := Nat.lt_of_le_of_lt (Nat.le_trans (Nat.le_add_right _ _) hl) (by decide)
      have hs := l0_spec j (m / 10) (acc ++ [((48 + m % 10 : Nat) : Int)]) q n hm10 (by rw [List.length_append, List.length_singleton, Nat.add_assoc, Nat.add_comm 1 j]; exact hl) hn
      rw [if_neg e1, ht, if_neg e2, if_pos e3, hd, hw1, hw2, if_neg h, hs, List.append_assoc]
      rfl
theorem format_dig (n : Nat) (h : n < 1048576) : trestleref02_Format.f 40 (n : Int) = some (bs (dig n)) := by
  unfold trestleref02_Format.f dig
  by_cases h0 : n = 0
  · subst h0
    rw [if_pos (show ((0 : Nat) : Int) = 0 from rfl), if_pos (show (0 : Nat) = 0 from rfl)]
    rfl
  · rw [if_neg (by omega), if_neg h0]
    have := l0_spec 7 n [] 19 (n : Int) (by omega) (by simp) (by omega)
    rw [this]
    have h8 : digF 8 n [] = ((rdigF 8 n).reverse.map fun n => UInt8.ofNat n.toNat) ++ [] := digF_rdig 8 n []
    have h78 : rdigF 8 n = rdigF 7 n := by
      have hz : ∀ (j m : Nat), m < 10 ^ j → rdigF (j + 1) m = rdigF j m := by
        intro j
        induction j with
        | zero => intro m hm; have : m = 0 := by simp at hm; exact hm
                  subst this; rfl
        | succ j ih =>
          intro m hm
          conv => lhs; unfold rdigF
          conv => rhs; unfold rdigF
          by_cases hm0 : m = 0
          · rw [if_pos hm0, if_pos hm0]
          · rw [if_neg hm0, if_neg hm0, ih (m / 10) (by rw [Nat.pow_succ] at hm; omega)]
      exact hz 7 n (by omega)
    rw [h8, h78, List.append_nil, List.nil_append]
    rfl
abbrev Te := S42
/-- A number of a term. -/
def numT (n : Int) : Nat := (n % 1048576).toNat
theorem numT_lt (n : Int) : numT n < 1048576 := by unfold numT; omega
theorem numT_cast (n : Int) : ((numT n : Nat) : Int) = n % 1048576 := by unfold numT; omega
/-- The expression of the terms, and how many of them it takes. -/
def texL : Nat → List Te → Ex × Nat
  | _, [] => (.num 1, 0)
  | 0, t :: l => (.num (numT t.f1), 1)
  | d + 1, t :: l =>
    if t.f0 < 1 ∨ 6 < t.f0 then (.num (numT t.f1), 1)
    else if t.f0 = 4 then (.neg (texL d l).1, (texL d l).2 + 1)
    else (.op t.f0.toNat (texL d l).1 (texL d (l.drop (texL d l).2)).1, (texL d l).2 + (texL d (l.drop (texL d l).2)).2 + 1)
theorem texL_spec : ∀ (d : Nat) (l : List Te), (texL d l).1.ok ∧ (texL d l).2 ≤ l.length ∧ (texL d l).1.ops ≤ (texL d l).2 ∧ (texL d l).1.high ≤ d
  | d, [] => by
    have e : texL d [] = (.num 1, 0) := by cases d <;> rfl
    rw [e]
    exact ⟨by show 1 < 1048576; omega, Nat.le_refl _, Nat.le_refl _, Nat.zero_le _⟩
  | 0, t :: l => ⟨numT_lt _, by show 1 ≤ l.length + 1; omega, Nat.zero_le _, Nat.le_refl _⟩
  | d + 1, t :: l => by
    unfold texL
    by_cases h1 : t.f0 < 1 ∨ 6 < t.f0
    · rw [if_pos h1]
      exact ⟨numT_lt _, by show 1 ≤ l.length + 1; omega, Nat.zero_le _, Nat.zero_le _⟩
    · rw [if_neg h1]
      obtain ⟨a1, a2, a3, a4⟩ := texL_spec d l
      by_cases h4 : t.f0 = 4
      · rw [if_pos h4]
        exact ⟨a1, by show _ + 1 ≤ l.length + 1; omega, by show (texL d l).1.ops + 1 ≤ _ + 1; omega, by show (texL d l).1.high + 1 ≤ d + 1; omega⟩
      · rw [if_neg h4]
        obtain ⟨b1, b2, b3, b4⟩ := texL_spec d (l.drop (texL d l).2)
        rw [List.length_drop] at b2
        refine ⟨⟨by omega, a1, b1⟩, ?_, ?_, ?_⟩
        · show (texL d l).2 + _ + 1 ≤ l.length + 1
          omega
        · show (texL d l).1.ops + _ + 1 ≤ (texL d l).2 + _ + 1
          omega
        · show max (texL d l).1.high _ + 1 ≤ d + 1
          omega
end Go.Proofs.YtaoippnipcchmaaGreatDoor.PT
/- TopCode, plain: the statement's machine comes to the value. -/
namespace Go.Proofs.YtaoippnipcchmaaGreatDoor.PT
open Go.RowKit Go.Proofs.YtaoippnipcchmaaGreatDoorW.PrintWords Go.Proofs.YtaoippnipcchmaaGreatDoorW.PrintLast Go.Proofs.YtaoippnipcchmaaGreatDoorW.PrintMore
open Go.Proofs.YtaoippnipcchmaaGreatDoor.TP
set_option linter.unusedVariables false
set_option linter.unusedSimpArgs false

theorem rd_ixs {code : List In} {at_ : Nat} {i : In} (h : code[at_]? = some i) : rd_T65 (ixs code) (at_ : Int) = ixOf i := by
  unfold rd_T65 ixs
  rw [Int.toNat_natCast, List.getD_eq_getElem?_getD, List.getElem?_map, h]
  rfl
theorem w64 (n : Nat) (h : n ≤ 100000) : wrap64 (n : Int) = (n : Int) := IntWalk.wrap64_in _ (by omega)
/-- The instruction is fetched. -/
theorem fetch {code : List In} {cs : List Int} {at_ : Nat} {i : In} (h : code[at_]? = some i) (hcl : code.length ≤ 60000) (q : Nat) (st : List Int) (x6 : Nat) (hx : x6 ≤ 9000) (b : Bool) (hb : b = (i.op == 1 || i.op == 22)) :
    trestletop_run.l0 (q + 2) st (at_ : Int) (x6 : Int) ⟨#[]⟩ 0 0 (valsOf cs) (ixs code) = trestletop_run.j2 q st ((at_ + 1 : Nat) : Int) (x6 : Int) (st.length : Int) i.op b ⟨#[]⟩ 0 0 (valsOf cs) (ixs code) i.op i.a i.b i.c := by
  have hlt := (List.getElem?_eq_some_iff.1 h).1
  have hw : wrap64 ((at_ : Int) + 1) = ((at_ + 1 : Nat) : Int) := by rw [IntWalk.wrap64_in _ (by omega)]; omega
  have hil : (at_ : Int) < ((ixs code).length : Int) := by rw [ixs_len]; omega
  unfold trestletop_run.l0
  rw [if_pos (by omega), if_pos (by omega), decide_eq_true hil]
  unfold trestletop_run.j1
  rw [if_pos rfl, if_pos (by omega), if_pos hil, rd_ixs h, hw]
  subst hb
  by_cases h1 : i.op = 1
  · rw [if_pos (show (ixOf i).f0 = 1 from h1)]
    show trestletop_run.j2 q st _ _ _ i.op (i.op == 1) _ _ _ _ _ i.op i.a i.b i.c = _
    have e : (i.op == 1 || i.op == 22) = (i.op == 1) := by rw [h1]; rfl
    rw [e]
  · rw [if_neg (show ¬ (ixOf i).f0 = 1 from h1)]
    show trestletop_run.j2 q st _ _ _ i.op (i.op == 22) _ _ _ _ _ i.op i.a i.b i.c = _
    have : (i.op == 1) = false := beq_eq_false_iff_ne.2 h1
    rw [this, Bool.false_or]
theorem rd_last (st : List Int) (x : Int) : rd (st ++ [x]) (st.length : Int) = x := by
  unfold rd
  rw [Int.toNat_natCast, List.getD_eq_getElem?_getD, List.getElem?_append_right (Nat.le_refl _), Nat.sub_self]
  rfl
theorem run_fin {code : List In} {cs : List Int} {v : Int} (hcl : code.length ≤ 60000) (hcs : cs.length ≤ 60000) {at_ m : Nat} {st : List Int} (h : Fin code cs v at_ st m) :
    ∀ (q x6 : Nat), 4 * m ≤ q → x6 + m ≤ 9000 → st.length + m ≤ 20000 → trestletop_run.l0 q st (at_ : Int) (x6 : Int) ⟨#[]⟩ 0 0 (valsOf cs) (ixs code) = some (v, true) := by
  induction h with
  | @ret at_ i h ho =>
    intro q x6 hq hx hs
    obtain ⟨q, rfl⟩ : ∃ r, q = r + 1 + 2 := ⟨q - 3, by omega⟩
    rw [fetch h hcl (q + 1) _ x6 (by omega) false (by rw [ho]; rfl)]
    unfold trestletop_run.j2
    rw [ho]
    rfl
  | @line at_ m st i h ho hn ih =>
    intro q x6 hq hx hs
    obtain ⟨q, rfl⟩ : ∃ r, q = r + 1 + 2 := ⟨q - 3, by omega⟩
    rw [fetch h hcl (q + 1) _ x6 (by omega) true (by rcases ho with ho | ho <;> rw [ho] <;> rfl)]
    unfold trestletop_run.j2
    rw [if_pos rfl, show wrap64 ((x6 : Int) + 1) = ((x6 + 1 : Nat) : Int) by rw [IntWalk.wrap64_in _ (by omega)]; omega]
    exact ih q (x6 + 1) (by omega) (by omega) (by omega)
  | @const at_ m st i j x h ho ha hxc hn ih =>
    intro q x6 hq hx hs
    obtain ⟨q, rfl⟩ : ∃ r, q = r + 1 + 2 := ⟨q - 3, by omega⟩
    have hjl := (List.getElem?_eq_some_iff.1 hxc).1
    rw [fetch h hcl (q + 1) _ x6 (by omega) false (by rw [ho]; rfl)]
    unfold trestletop_run.j2
    have hwj : wrap64 ((j : Int) + 1 - 1) = (j : Int) := by rw [Int.add_sub_cancel]; exact w64 j (by omega)
    have hrd : rd_T67 (valsOf cs) (j : Int) = vInt x := by
      rw [rd_vals cs j hjl]
      congr 1
      exact Option.some.inj ((List.getElem?_eq_getElem hjl).symm.trans hxc)
    rw [if_neg (by decide), ho, if_pos rfl, ha, if_neg (by omega), if_neg (by rw [valsOf_len]; omega), hwj, if_pos (by omega), if_pos (by rw [valsOf_len]; omega), hrd, if_pos (show (vInt x).f0 = 2 from rfl), if_pos (by omega), show wrap64 ((x6 : Int) + 1) = ((x6 + 1 : Nat) : Int) by rw [IntWalk.wrap64_in _ (by omega)]; omega]
    exact ih q (x6 + 1) (by omega) (by omega) (by rw [List.length_append, List.length_singleton]; omega)
  | @una at_ m st x i h ho ha hn ih =>
    intro q x6 hq hx hs
    obtain ⟨q, rfl⟩ : ∃ r, q = r + 1 + 2 := ⟨q - 3, by omega⟩
    rw [List.length_append, List.length_singleton] at hs
    rw [fetch h hcl (q + 1) _ x6 (by omega) false (by rw [ho]; rfl)]
    unfold trestletop_run.j2
    have hwl : wrap64 (((st ++ [x]).length : Int) - 1) = (st.length : Int) := by rw [List.length_append, List.length_singleton, IntWalk.wrap64_in _ (by omega)]; omega
    rw [if_neg (by decide), ho, if_neg (by decide), if_pos rfl, if_neg (by rw [List.length_append, List.length_singleton]; omega), ha, if_pos rfl, hwl, if_pos (by omega), if_pos (by rw [List.length_append, List.length_singleton]; omega), rd_last, Int.toNat_natCast, show wrap64 ((x6 : Int) + 1) = ((x6 + 1 : Nat) : Int) by rw [IntWalk.wrap64_in _ (by omega)]; omega]
    have hset : (st ++ [x]).set st.length (wrap64 (-x)) = st ++ [wrap64 (-x)] := by simp
    rw [hset, show wrap64 (-x) = wrap (-x) from (IntWalk.i64_left _).symm]
    exact ih q (x6 + 1) (by omega) (by omega) (by rw [List.length_append, List.length_singleton]; omega)
  | @bin at_ m o st x y i h ho ha h3 hn ih =>
    intro q x6 hq hx hs
    obtain ⟨q, rfl⟩ : ∃ r, q = r + 1 + 1 + 2 := ⟨q - 4, by omega⟩
    have hl2 : (st ++ [x, y]).length = st.length + 2 := by rw [List.length_append]; rfl
    rw [hl2] at hs
    rw [fetch h hcl (q + 1 + 1) _ x6 (by omega) false (by rw [ho]; rfl)]
    unfold trestletop_run.j2
    have hw2 : wrap64 (((st.length + 2 : Nat) : Int) - 2) = (st.length : Int) := by rw [IntWalk.wrap64_in _ (by omega)]; omega
    have hw1 : wrap64 (((st.length + 2 : Nat) : Int) - 1) = ((st.length + 1 : Nat) : Int) := by rw [IntWalk.wrap64_in _ (by omega)]; omega
    have hr1 : rd (st ++ [x, y]) (st.length : Int) = x := by
      unfold rd
      rw [Int.toNat_natCast, List.getD_eq_getElem?_getD, List.getElem?_append_right (Nat.le_refl _), Nat.sub_self]
      rfl
    have hr2 : rd (st ++ [x, y]) ((st.length + 1 : Nat) : Int) = y := by
      unfold rd
      rw [Int.toNat_natCast, List.getD_eq_getElem?_getD, List.getElem?_append_right (by omega), show st.length + 1 - st.length = 1 by omega]
      rfl
    have htk : (st ++ [x, y]).take st.length = st := by simp
    rw [if_neg (by decide), ho, if_neg (by decide), if_neg (by decide), if_pos rfl, hl2, if_neg (by omega), ha, if_neg (by omega), decide_eq_false (show ¬ (o : Int) > 3 by omega)]
    unfold trestletop_run.j3
    rw [if_neg (by decide), hl2, hw2, hw1, if_pos (by omega), if_pos (by omega), if_pos (by omega), if_pos (by omega), hr1, hr2, Int.toNat_natCast, htk, show wrap64 ((x6 : Int) + 1) = ((x6 + 1 : Nat) : Int) by rw [IntWalk.wrap64_in _ (by omega)]; omega]
    have hih := ih q (x6 + 1) (by omega) (by omega) (by rw [List.length_append, List.length_singleton]; omega)
    rcases h3 with rfl | rfl | rfl
    · rw [if_neg (by decide), if_neg (by decide), if_pos (by omega), Option.bind_some, if_pos (by omega), show wrap64 (x + y) = opV 1 x y from (IntWalk.i64_left _).symm]
      exact hih
    · rw [if_pos (by decide), if_neg (by decide), if_pos (by omega), Option.bind_some, if_pos (by omega), show wrap64 (x - y) = opV 2 x y from (IntWalk.i64_left _).symm]
      exact hih
    · rw [if_neg (by decide), if_pos (by decide), if_pos (by omega), Option.bind_some, if_pos (by omega), show wrap64 (x * y) = opV 3 x y from (IntWalk.i64_left _).symm]
      exact hih
  | @and at_ m st x i h ho hn ih =>
    intro q x6 hq hx hs
    obtain ⟨q, rfl⟩ : ∃ r, q = r + 1 + 2 := ⟨q - 3, by omega⟩
    rw [List.length_append, List.length_singleton] at hs
    rw [fetch h hcl (q + 1) _ x6 (by omega) false (by rw [ho]; rfl)]
    unfold trestletop_run.j2
    have hwl : wrap64 (((st ++ [x]).length : Int) - 1) = (st.length : Int) := by rw [List.length_append, List.length_singleton, IntWalk.wrap64_in _ (by omega)]; omega
    rw [if_neg (by decide), ho, if_neg (by decide), if_neg (by decide), if_neg (by decide), if_pos rfl, if_neg (by rw [List.length_append, List.length_singleton]; omega), hwl, if_pos (by omega), if_pos (by rw [List.length_append, List.length_singleton]; omega), Int.toNat_natCast, List.take_left, show wrap64 ((x6 : Int) + 1) = ((x6 + 1 : Nat) : Int) by rw [IntWalk.wrap64_in _ (by omega)]; omega]
    exact ih q (x6 + 1) (by omega) (by omega) (by omega)
  | @or at_ m t st x i h ho ha hn ih =>
    intro q x6 hq hx hs
    obtain ⟨q, rfl⟩ : ∃ r, q = r + 1 + 2 := ⟨q - 3, by omega⟩
    rw [List.length_append, List.length_singleton] at hs
    rw [fetch h hcl (q + 1) _ x6 (by omega) false (by rw [ho]; rfl)]
    unfold trestletop_run.j2
    rw [if_neg (by decide), ho, if_neg (by decide), if_neg (by decide), if_neg (by decide), if_neg (by decide), if_pos rfl, ha, show wrap64 ((x6 : Int) + 1) = ((x6 + 1 : Nat) : Int) by rw [IntWalk.wrap64_in _ (by omega)]; omega]
    exact ih q (x6 + 1) (by omega) (by omega) (by rw [List.length_append, List.length_singleton]; omega)
/-- What the statement's machine returns. -/
theorem run_code (line : Int) (e : Ex) (hok : e.ok) (ho : e.ops ≤ 120) : trestletop_run.f 4000 ⟨#[]⟩ 0 0 (valsOf (e.cons [])) (ixs (codeOf line (e.cons []) e)) = some (e.val, true) := by
  obtain ⟨m, hm, hf⟩ := fin_all line e hok ho
  have h1 := size_ops e
  have h2 := nums_len e
  have h3 := foldl_len e.nums []
  unfold trestletop_run.f
  refine run_fin ?_ ?_ hf 4000 0 (by omega) (by omega) (by simp; omega)
  · unfold codeOf
    simp only [List.length_append, List.length_cons, List.length_nil, code_len]
    omega
  · show (e.nums.foldl addN []).length ≤ 60000
    simp only [List.length_nil] at h3
    omega
end Go.Proofs.YtaoippnipcchmaaGreatDoor.PT
/- TopCode: the statement's text: its walk. -/
namespace Go.Proofs.YtaoippnipcchmaaGreatDoor.PT
open Go.RowKit Go.Proofs.YtaoippnipcchmaaGreatDoorW.PrintWords Go.Proofs.YtaoippnipcchmaaGreatDoorW.PrintLast Go.Proofs.YtaoippnipcchmaaGreatDoorW.PrintMore
open Go.Proofs.YtaoippnipcchmaaGreatDoor.TP
set_option linter.unusedVariables false
set_option linter.unusedSimpArgs false

/-- What text tells. -/
def TexRes (x : Ex × Nat) (w : World) (r : Ending) (w' : World) : Prop := r = .returned (.tuple #[.string (bs x.1.str), .int .i64 x.1.val, .int .i64 x.2]) ∧ Below w.heap.size w w'
theorem term_info : ∃ i, Tryz.prog.info? 42 = some i ∧ i.size = 2 := by
  have h : (Tryz.prog.info? 42).map (·.size) = some 2 := by kernel_rfl
  cases hq : Tryz.prog.info? 42 with
  | none => simp [hq] at h
  | some i => exact ⟨i, rfl, by simpa [hq] using h⟩
/-- The terms behind the first ones. -/
theorem cut_terms {w : World} {ad : Addr} {l : List Te} {c k : Nat} (hk : k ≤ l.length) (hc : l.length ≤ c) (hk0 : k ≠ 0) (h : Kd.C k42 w (some ad) l.length l) : Kd.C k42 w (if c = k then some ad else some ⟨ad.block, ad.off + k * 2, none⟩) (l.drop k).length (l.drop k) := by
  have hd := Kd.C_drop h hk hc
  have ha : (some ad).map (·.add (k * 2)) = some (⟨ad.block, ad.off + k * 2, none⟩ : Addr) := by
    show some (ad.add (k * 2)) = _
    unfold Addr.add
    rw [if_neg (by omega)]
  have hz : k42.sz = 2 := rfl
  rw [hz, ha] at hd
  exact hd
theorem head_terms {w : World} {A : Option Addr} {t : Te} {l : List Te} (h : Kd.C k42 w A (t :: l).length (t :: l)) : ∃ ad, A = some ad ∧ w.cell? ad = some (.int .i64 t.f0) ∧ w.cell? ⟨ad.block, ad.off + 1, none⟩ = some (.int .i64 t.f1) := by
  obtain ⟨ad, e, x0, x1⟩ := at_T42 h (0 : Int) (by omega) (by simp)
  have ha : ad.add (Int.toNat 0 * 2) = ad := by simp [Addr.add]
  rw [ha] at x0 x1
  exact ⟨ad, e, x0, x1⟩
theorem bs_app (x y : List UInt8) : bs (x ++ y) = bs x ++ bs y := by
  apply ByteArray.ext
  simp [bs]
set_option maxHeartbeats 1000000 in
set_option maxRecDepth 100000 in
theorem text_nil (w : World) (A : Option Addr) (c : Nat) (d : Int) : Calls Tryz.prog 4 #[.slice A 0 c, .int .i64 d] w (TexRes (.num 1, 0) w) := by
  go_enter Tryz.func4, Tryz.ntmps4
  go_wp2_with fail
  go_ret3
  exact ⟨rfl, Below.refl _ _⟩
set_option maxHeartbeats 1000000 in
set_option maxRecDepth 100000 in
theorem text_num (w : World) (A : Option Addr) (c d : Nat) (t : Te) (l : List Te) (hd : d ≤ 20) (h : d = 0 ∨ t.f0 < 1 ∨ 6 < t.f0) (hC : Kd.C k42 w A (t :: l).length (t :: l)) (hc : (t :: l).length ≤ c) (hl : (t :: l).length ≤ 200) :
    Calls Tryz.prog 4 #[.slice A (t :: l).length c, .int .i64 d] w (TexRes (.num (numT t.f1), 1) w) := by
  obtain ⟨ad, rfl, x0, x1⟩ := head_terms hC
  obtain ⟨n, hn⟩ : ∃ n, (t :: l).length = n := ⟨_, rfl⟩
  have hn1 : 1 ≤ n := by rw [← hn]; simp
  rw [hn] at hC hc hl ⊢
  have n0 : ((n : Int) == 0) = false := beq_eq_false_iff_ne.2 (by omega)
  have p1 : (0 : Int) < (n : Int) := by omega
  have hN := numT_cast t.f1
  have hNl := numT_lt t.f1
  obtain ⟨N, hNe⟩ : ∃ N, numT t.f1 = N := ⟨_, rfl⟩
  rw [hNe] at hN hNl ⊢
  have hbit : Go.bits .and .i64 t.f1 1048575 = (N : Int) := by rw [and20, hN]
  have HF := Lib.hid (fun W => trestleref02_Format.calls 40 (N : Int) (bs (dig N)) W (format_dig N hNl))
  obtain ⟨f0, hf0⟩ : ∃ f, t.f0 = f := ⟨_, rfl⟩
  obtain ⟨f1, hf1⟩ : ∃ f, t.f1 = f := ⟨_, rfl⟩
  rw [hf0] at x0 h
  rw [hf1] at x1 hbit
  have hcase : ((d : Int) == 0) = true ∨ ((d : Int) == 0) = false ∧ decide (f0 < 1) = true ∨ ((d : Int) == 0) = false ∧ decide (f0 < 1) = false ∧ decide (f0 > 6) = true ∧ decide (6 < f0) = true := by
    by_cases h0 : d = 0
    · exact .inl (beq_iff_eq.2 (by omega))
    · by_cases h1 : f0 < 1
      · exact .inr (.inl ⟨beq_eq_false_iff_ne.2 (by omega), decide_eq_true h1⟩)
      · exact .inr (.inr ⟨beq_eq_false_iff_ne.2 (by omega), decide_eq_false h1, decide_eq_true (by omega), decide_eq_true (by omega)⟩)
  clear hC hn hN hNl hNe hf0 hf1 hd h hc hl hn1
  rcases hcase with c0 | ⟨c0, c1⟩ | ⟨c0, c1, c2, c3⟩
  all_goals
    go_enter Tryz.func4, Tryz.ntmps4
    go_wp2_with fail
    refine (HF.out w).mono ?_
    rintro r w1 ⟨rfl, hb1⟩
    have B1 := Lib.hid hb1
    clear hb1
    go_wp2_with fail
    go_ret3
    exact ⟨rfl, B1.out⟩
set_option maxHeartbeats 1000000 in
set_option maxRecDepth 100000 in
theorem text_neg (w : World) (A : Option Addr) (c d : Nat) (t : Te) (l : List Te) (hd : d ≤ 20) (h4 : t.f0 = 4) (hC : Kd.C k42 w A (t :: l).length (t :: l)) (hc : (t :: l).length ≤ c) (hl : (t :: l).length ≤ 200)
    (x : Ex × Nat) (hxl : x.1.str.length ≤ 5000) (hx2 : x.2 ≤ l.length)
    (ih : ∀ (A' : Option Addr) (c' : Nat), l.length ≤ c' → Kd.C k42 w A' l.length l → Calls Tryz.prog 4 #[.slice A' l.length c', .int .i64 d] w (TexRes x w)) :
    Calls Tryz.prog 4 #[.slice A (t :: l).length c, .int .i64 (d + 1 : Nat)] w (TexRes (.neg x.1, x.2 + 1) w) := by
  obtain ⟨ad, rfl, x0, x1⟩ := head_terms hC
  have hcut := cut_terms (l := t :: l) (c := c) (k := 1) (by simp) hc (by decide) hC
  have hx := ih _ (c - 1) (by have : (t :: l).length = l.length + 1 := rfl; omega) hcut
  obtain ⟨n, hn⟩ : ∃ n, (t :: l).length = n := ⟨_, rfl⟩
  have hl1 : l.length = n - 1 := by have : (t :: l).length = l.length + 1 := rfl; omega
  rw [hl1] at hx
  rw [hn] at hl hc ⊢
  obtain ⟨X, hX⟩ : ∃ X, bs x.1.str = X := ⟨_, rfl⟩
  have hXs : X.size ≤ 5000 := by rw [← hX, bs_size]; exact hxl
  have o1 : (9223372036854775807 < 3 + X.size) = False := eq_false (by omega)
  have o2 : (9223372036854775807 < 3 + X.size + 1) = False := eq_false (by omega)
  obtain ⟨i, hi⟩ : ∃ i, x.2 = i := ⟨_, rfl⟩
  have hwi : IntKind.i64.wrap ((i : Int) + 1) = (i : Int) + 1 := IntWalk.i64_in _ (by omega)
  have hwd : IntKind.i64.wrap (d : Int) = (d : Int) := IntWalk.i64_in _ (by omega)
  have hwd2 : IntKind.i64.wrap ((d : Int) + 1 - 1) = (d : Int) := by rw [Int.add_sub_cancel]; exact hwd
  have d0 : ((d : Int) + 1 == 0) = false := beq_eq_false_iff_ne.2 (by omega)
  have HE := Lib.hid (And.intro hX hi)
  have hn1 : 1 ≤ n := by rw [← hn]; simp
  have n0 : ((n : Int) == 0) = false := beq_eq_false_iff_ne.2 (by omega)
  have p1 : (0 : Int) < (n : Int) := by omega
  rw [h4] at x0
  clear hC hc hd h4 hl hxl hx2 ih hn hl1 hXs hX hi hn1 hcut
  by_cases hc1 : c = 1
  · rw [if_pos hc1] at hx
    have hHX := Lib.hid hx
    have hcc : (c = 1) = True := eq_true hc1
    clear hx hc1
    go_enter Tryz.func4, Tryz.ntmps4
    go_wp2_with fail
    refine hHX.out.mono ?_
    rintro r w1 ⟨rfl, hb1⟩
    have B1 := Lib.hid hb1
    rw [HE.out.1, HE.out.2]
    clear hb1
    go_wp2_with fail
    go_ret3
    refine ⟨?_, B1.out⟩
    have e1 : bs (Ex.neg x.1).str = ⟨#[40, 45, 32]⟩ ++ X ++ ⟨#[41]⟩ := by
      rw [← HE.out.1]
      show bs ([40, 45, 32] ++ x.1.str ++ [41]) = _
      rw [bs_app, bs_app]
      rfl
    have e2 : (Ex.neg x.1).val = wrap64 (-x.1.val) := IntWalk.i64_left _
    have e3 : ((x.2 + 1 : Nat) : Int) = (i : Int) + 1 := by rw [HE.out.2]; rfl
    show _ = Ending.returned (.tuple #[.string (bs (Ex.neg x.1).str), .int .i64 (Ex.neg x.1).val, .int .i64 ((x.2 + 1 : Nat) : Int)])
    rw [e1, e2, e3]
    rfl
  · rw [if_neg hc1] at hx
    have hHX := Lib.hid hx
    have hcc : (c = 1) = False := eq_false hc1
    clear hx hc1
    go_enter Tryz.func4, Tryz.ntmps4
    go_wp2_with fail
    refine hHX.out.mono ?_
    rintro r w1 ⟨rfl, hb1⟩
    have B1 := Lib.hid hb1
    rw [HE.out.1, HE.out.2]
    clear hb1
    go_wp2_with fail
    go_ret3
    refine ⟨?_, B1.out⟩
    have e1 : bs (Ex.neg x.1).str = ⟨#[40, 45, 32]⟩ ++ X ++ ⟨#[41]⟩ := by
      rw [← HE.out.1]
      show bs ([40, 45, 32] ++ x.1.str ++ [41]) = _
      rw [bs_app, bs_app]
      rfl
    have e2 : (Ex.neg x.1).val = wrap64 (-x.1.val) := IntWalk.i64_left _
    have e3 : ((x.2 + 1 : Nat) : Int) = (i : Int) + 1 := by rw [HE.out.2]; rfl
    show _ = Ending.returned (.tuple #[.string (bs (Ex.neg x.1).str), .int .i64 (Ex.neg x.1).val, .int .i64 ((x.2 + 1 : Nat) : Int)])
    rw [e1, e2, e3]
    rfl
end Go.Proofs.YtaoippnipcchmaaGreatDoor.PT
/- TopCode: the statement's text of an operation: its walk. -/
namespace Go.Proofs.YtaoippnipcchmaaGreatDoor.PT
open Go.RowKit Go.Proofs.YtaoippnipcchmaaGreatDoorW.PrintWords Go.Proofs.YtaoippnipcchmaaGreatDoorW.PrintLast Go.Proofs.YtaoippnipcchmaaGreatDoorW.PrintMore
open Go.Proofs.YtaoippnipcchmaaGreatDoor.TP
set_option linter.unusedVariables false
set_option linter.unusedSimpArgs false

theorem str_op (o : Nat) (a b : Ex) : bs (Ex.op o a b).str = ⟨#[40]⟩ ++ bs a.str ++ bs ([32] ++ opT o ++ [32]) ++ bs b.str ++ ⟨#[41]⟩ := by
  have e : (Ex.op o a b).str = [40] ++ a.str ++ ([32] ++ opT o ++ [32]) ++ b.str ++ [41] := by simp [Ex.str]
  rw [e, bs_app, bs_app, bs_app, bs_app]
  rfl
set_option maxHeartbeats 1000000 in
set_option maxRecDepth 100000 in
theorem text_op1 (w : World) (A : Option Addr) (c d : Nat) (t : Te) (l : List Te) (hd : d ≤ 20) (h4 : t.f0 = 1) (hC : Kd.C k42 w A (t :: l).length (t :: l)) (hc : (t :: l).length ≤ c) (hl : (t :: l).length ≤ 200)
    (x y : Ex × Nat) (hxl : x.1.str.length ≤ 5000) (hyl : y.1.str.length ≤ 5000) (hx2 : x.2 ≤ l.length) (hy2 : y.2 ≤ l.length)
    (ihx : ∀ (A' : Option Addr) (c' : Nat), l.length ≤ c' → Kd.C k42 w A' l.length l → Calls Tryz.prog 4 #[.slice A' l.length c', .int .i64 d] w (TexRes x w))
    (ihy : ∀ (W : World) (A' : Option Addr) (c' : Nat), (l.drop x.2).length ≤ c' → Kd.C k42 W A' (l.drop x.2).length (l.drop x.2) → Calls Tryz.prog 4 #[.slice A' (l.drop x.2).length c', .int .i64 d] W (TexRes y W)) :
    Calls Tryz.prog 4 #[.slice A (t :: l).length c, .int .i64 (d + 1 : Nat)] w (TexRes (.op 1 x.1 y.1, x.2 + y.2 + 1) w) := by
  obtain ⟨ad, rfl, x0, x1⟩ := head_terms hC
  have hcut := cut_terms (l := t :: l) (c := c) (k := 1) (by simp) hc (by decide) hC
  have hx := ihx _ (c - 1) (by have : (t :: l).length = l.length + 1 := rfl; omega) hcut
  have hl1e : (t :: l).length = l.length + 1 := rfl
  have hcy : ∀ W, Below w.heap.size w W → Calls Tryz.prog 4 #[.slice (if c = 1 + x.2 then some ad else some (ad.add ((1 + x.2) * 2))) (l.drop x.2).length (c - (1 + x.2)), .int .i64 d] W (TexRes y W) := fun W hW => by
    have hk := cut_terms (l := t :: l) (c := c) (k := 1 + x.2) (by omega) hc (by omega) (Kd.C_below hC hW)
    have e : (t :: l).drop (1 + x.2) = l.drop x.2 := by rw [Nat.add_comm]; rfl
    have ha : (⟨ad.block, ad.off + (1 + x.2) * 2, none⟩ : Addr) = ad.add ((1 + x.2) * 2) := by
      unfold Addr.add
      rw [if_neg (by omega)]
    rw [e, ha] at hk
    exact ihy W _ (c - (1 + x.2)) (by rw [List.length_drop]; omega) hk
  obtain ⟨n, hn⟩ : ∃ n, (t :: l).length = n := ⟨_, rfl⟩
  have hl1 : l.length = n - 1 := by omega
  obtain ⟨i, hi⟩ : ∃ i, x.2 = i := ⟨_, rfl⟩
  obtain ⟨j, hj⟩ : ∃ j, y.2 = j := ⟨_, rfl⟩
  have hdl : (l.drop x.2).length = n - (1 + i) := by rw [List.length_drop]; omega
  rw [hdl] at hcy
  rw [hi] at hcy
  rw [hl1] at hx
  rw [hn] at hl hc ⊢
  obtain ⟨X, hX⟩ : ∃ X, bs x.1.str = X := ⟨_, rfl⟩
  obtain ⟨Y, hY⟩ : ∃ Y, bs y.1.str = Y := ⟨_, rfl⟩
  have hXs : X.size ≤ 5000 := by rw [← hX, bs_size]; exact hxl
  have hYs : Y.size ≤ 5000 := by rw [← hY, bs_size]; exact hyl
  have o1 : (9223372036854775807 < 1 + X.size) = False := eq_false (by omega)
  have o2 : (9223372036854775807 < 1 + X.size + 3) = False := eq_false (by omega)
  have o3 : (9223372036854775807 < 1 + X.size + 3 + Y.size) = False := eq_false (by omega)
  have o4 : (9223372036854775807 < 1 + X.size + 3 + Y.size + 1) = False := eq_false (by omega)
  have hwi : IntKind.i64.wrap (1 + (i : Int)) = 1 + (i : Int) := IntWalk.i64_in _ (by omega)
  have hwj : IntKind.i64.wrap ((i : Int) + (j : Int)) = (i : Int) + (j : Int) := IntWalk.i64_in _ (by omega)
  have hwk : IntKind.i64.wrap ((i : Int) + (j : Int) + 1) = (i : Int) + (j : Int) + 1 := IntWalk.i64_in _ (by omega)
  have hwd : IntKind.i64.wrap (d : Int) = (d : Int) := IntWalk.i64_in _ (by omega)
  have hwd2 : IntKind.i64.wrap ((d : Int) + 1 - 1) = (d : Int) := by rw [Int.add_sub_cancel]; exact hwd
  have d0 : ((d : Int) + 1 == 0) = false := beq_eq_false_iff_ne.2 (by omega)
  have HE := Lib.hid (And.intro hX (And.intro hi (And.intro hY hj)))
  have hn1 : 1 ≤ n := by rw [← hn]; simp
  have n0 : ((n : Int) == 0) = false := beq_eq_false_iff_ne.2 (by omega)
  have p1 : (0 : Int) < (n : Int) := by omega
  have b0 : 0 ≤ 1 + (i : Int) := by omega
  have b1 : 1 + (i : Int) ≤ (n : Int) := by omega
  have b2 : (1 + (i : Int)).toNat = 1 + i := by omega
  rw [h4] at x0
  have HY := Lib.hid hcy
  clear hC hc hd h4 hl hxl hyl hx2 hy2 ihx ihy hn hl1 hl1e hdl hXs hYs hX hY hi hj hn1 hcut hcy
  by_cases hc1 : c = 1
  all_goals
    first | rw [if_pos hc1] at hx | rw [if_neg hc1] at hx
    have hHX := Lib.hid hx
    first | have hcc : (c = 1) = True := eq_true hc1 | have hcc : (c = 1) = False := eq_false hc1
    clear hx hc1
    by_cases hc2 : c = 1 + i
    all_goals
      have hq := HY.out
      first | rw [if_pos hc2] at hq | rw [if_neg hc2] at hq
      have HYY := Lib.hid hq
      clear hq
      first | have hce : (c = 1 + i) = True := eq_true hc2 | have hce : (c = 1 + i) = False := eq_false hc2
      clear hc2
      go_enter Tryz.func4, Tryz.ntmps4
      go_wp2_with fail
      refine hHX.out.mono ?_
      rintro r w1 ⟨rfl, hb1⟩
      have B1 := Lib.hid hb1
      rw [HE.out.1, HE.out.2.1]
      clear hb1
      go_wp2_with fail
      refine (HYY.out w1 B1.out).mono ?_
      rintro r w2 ⟨rfl, hb2⟩
      have B2 := Lib.hid (B1.out.trans (hb2.mono B1.out.size))
      rw [HE.out.2.2.1, HE.out.2.2.2]
      clear hb2
      go_wp2_with fail
      go_ret3
      refine ⟨?_, B2.out⟩
      have e1 : bs (Ex.op 1 x.1 y.1).str = ⟨#[40]⟩ ++ X ++ ⟨#[32, 43, 32]⟩ ++ Y ++ ⟨#[41]⟩ := by
        rw [str_op, HE.out.1, HE.out.2.2.1]
        rfl
      have e2 : (Ex.op 1 x.1 y.1).val = wrap64 (x.1.val + y.1.val) := IntWalk.i64_left _
      have e3 : ((x.2 + y.2 + 1 : Nat) : Int) = (i : Int) + (j : Int) + 1 := by rw [HE.out.2.1, HE.out.2.2.2]; rfl
      show _ = Ending.returned (.tuple #[.string (bs (Ex.op 1 x.1 y.1).str), .int .i64 (Ex.op 1 x.1 y.1).val, .int .i64 ((x.2 + y.2 + 1 : Nat) : Int)])
      rw [e1, e2, e3]
      rfl
set_option maxHeartbeats 1000000 in
set_option maxRecDepth 100000 in
theorem text_op2 (w : World) (A : Option Addr) (c d : Nat) (t : Te) (l : List Te) (hd : d ≤ 20) (h4 : t.f0 = 2) (hC : Kd.C k42 w A (t :: l).length (t :: l)) (hc : (t :: l).length ≤ c) (hl : (t :: l).length ≤ 200)
    (x y : Ex × Nat) (hxl : x.1.str.length ≤ 5000) (hyl : y.1.str.length ≤ 5000) (hx2 : x.2 ≤ l.length) (hy2 : y.2 ≤ l.length)
    (ihx : ∀ (A' : Option Addr) (c' : Nat), l.length ≤ c' → Kd.C k42 w A' l.length l → Calls Tryz.prog 4 #[.slice A' l.length c', .int .i64 d] w (TexRes x w))
    (ihy : ∀ (W : World) (A' : Option Addr) (c' : Nat), (l.drop x.2).length ≤ c' → Kd.C k42 W A' (l.drop x.2).length (l.drop x.2) → Calls Tryz.prog 4 #[.slice A' (l.drop x.2).length c', .int .i64 d] W (TexRes y W)) :
    Calls Tryz.prog 4 #[.slice A (t :: l).length c, .int .i64 (d + 1 : Nat)] w (TexRes (.op 2 x.1 y.1, x.2 + y.2 + 1) w) := by
  obtain ⟨ad, rfl, x0, x1⟩ := head_terms hC
  have hcut := cut_terms (l := t :: l) (c := c) (k := 1) (by simp) hc (by decide) hC
  have hx := ihx _ (c - 1) (by have : (t :: l).length = l.length + 1 := rfl; omega) hcut
  have hl1e : (t :: l).length = l.length + 1 := rfl
  have hcy : ∀ W, Below w.heap.size w W → Calls Tryz.prog 4 #[.slice (if c = 1 + x.2 then some ad else some (ad.add ((1 + x.2) * 2))) (l.drop x.2).length (c - (1 + x.2)), .int .i64 d] W (TexRes y W) := fun W hW => by
    have hk := cut_terms (l := t :: l) (c := c) (k := 1 + x.2) (by omega) hc (by omega) (Kd.C_below hC hW)
    have e : (t :: l).drop (1 + x.2) = l.drop x.2 := by rw [Nat.add_comm]; rfl
    have ha : (⟨ad.block, ad.off + (1 + x.2) * 2, none⟩ : Addr) = ad.add ((1 + x.2) * 2) := by
      unfold Addr.add
      rw [if_neg (by omega)]
    rw [e, ha] at hk
    exact ihy W _ (c - (1 + x.2)) (by rw [List.length_drop]; omega) hk
  obtain ⟨n, hn⟩ : ∃ n, (t :: l).length = n := ⟨_, rfl⟩
  have hl1 : l.length = n - 1 := by omega
  obtain ⟨i, hi⟩ : ∃ i, x.2 = i := ⟨_, rfl⟩
  obtain ⟨j, hj⟩ : ∃ j, y.2 = j := ⟨_, rfl⟩
  have hdl : (l.drop x.2).length = n - (1 + i) := by rw [List.length_drop]; omega
  rw [hdl] at hcy
  rw [hi] at hcy
  rw [hl1] at hx
  rw [hn] at hl hc ⊢
  obtain ⟨X, hX⟩ : ∃ X, bs x.1.str = X := ⟨_, rfl⟩
  obtain ⟨Y, hY⟩ : ∃ Y, bs y.1.str = Y := ⟨_, rfl⟩
  have hXs : X.size ≤ 5000 := by rw [← hX, bs_size]; exact hxl
  have hYs : Y.size ≤ 5000 := by rw [← hY, bs_size]; exact hyl
  have o1 : (9223372036854775807 < 1 + X.size) = False := eq_false (by omega)
  have o2 : (9223372036854775807 < 1 + X.size + 3) = False := eq_false (by omega)
  have o3 : (9223372036854775807 < 1 + X.size + 3 + Y.size) = False := eq_false (by omega)
  have o4 : (9223372036854775807 < 1 + X.size + 3 + Y.size + 1) = False := eq_false (by omega)
  have hwi : IntKind.i64.wrap (1 + (i : Int)) = 1 + (i : Int) := IntWalk.i64_in _ (by omega)
  have hwj : IntKind.i64.wrap ((i : Int) + (j : Int)) = (i : Int) + (j : Int) := IntWalk.i64_in _ (by omega)
  have hwk : IntKind.i64.wrap ((i : Int) + (j : Int) + 1) = (i : Int) + (j : Int) + 1 := IntWalk.i64_in _ (by omega)
  have hwd : IntKind.i64.wrap (d : Int) = (d : Int) := IntWalk.i64_in _ (by omega)
  have hwd2 : IntKind.i64.wrap ((d : Int) + 1 - 1) = (d : Int) := by rw [Int.add_sub_cancel]; exact hwd
  have d0 : ((d : Int) + 1 == 0) = false := beq_eq_false_iff_ne.2 (by omega)
  have HE := Lib.hid (And.intro hX (And.intro hi (And.intro hY hj)))
  have hn1 : 1 ≤ n := by rw [← hn]; simp
  have n0 : ((n : Int) == 0) = false := beq_eq_false_iff_ne.2 (by omega)
  have p1 : (0 : Int) < (n : Int) := by omega
  have b0 : 0 ≤ 1 + (i : Int) := by omega
  have b1 : 1 + (i : Int) ≤ (n : Int) := by omega
  have b2 : (1 + (i : Int)).toNat = 1 + i := by omega
  rw [h4] at x0
  have HY := Lib.hid hcy
  clear hC hc hd h4 hl hxl hyl hx2 hy2 ihx ihy hn hl1 hl1e hdl hXs hYs hX hY hi hj hn1 hcut hcy
  by_cases hc1 : c = 1
  all_goals
    first | rw [if_pos hc1] at hx | rw [if_neg hc1] at hx
    have hHX := Lib.hid hx
    first | have hcc : (c = 1) = True := eq_true hc1 | have hcc : (c = 1) = False := eq_false hc1
    clear hx hc1
    by_cases hc2 : c = 1 + i
    all_goals
      have hq := HY.out
      first | rw [if_pos hc2] at hq | rw [if_neg hc2] at hq
      have HYY := Lib.hid hq
      clear hq
      first | have hce : (c = 1 + i) = True := eq_true hc2 | have hce : (c = 1 + i) = False := eq_false hc2
      clear hc2
      go_enter Tryz.func4, Tryz.ntmps4
      go_wp2_with fail
      refine hHX.out.mono ?_
      rintro r w1 ⟨rfl, hb1⟩
      have B1 := Lib.hid hb1
      rw [HE.out.1, HE.out.2.1]
      clear hb1
      go_wp2_with fail
      refine (HYY.out w1 B1.out).mono ?_
      rintro r w2 ⟨rfl, hb2⟩
      have B2 := Lib.hid (B1.out.trans (hb2.mono B1.out.size))
      rw [HE.out.2.2.1, HE.out.2.2.2]
      clear hb2
      go_wp2_with fail
      go_ret3
      refine ⟨?_, B2.out⟩
      have e1 : bs (Ex.op 2 x.1 y.1).str = ⟨#[40]⟩ ++ X ++ ⟨#[32, 45, 32]⟩ ++ Y ++ ⟨#[41]⟩ := by
        rw [str_op, HE.out.1, HE.out.2.2.1]
        rfl
      have e2 : (Ex.op 2 x.1 y.1).val = wrap64 (x.1.val - y.1.val) := IntWalk.i64_left _
      have e3 : ((x.2 + y.2 + 1 : Nat) : Int) = (i : Int) + (j : Int) + 1 := by rw [HE.out.2.1, HE.out.2.2.2]; rfl
      show _ = Ending.returned (.tuple #[.string (bs (Ex.op 2 x.1 y.1).str), .int .i64 (Ex.op 2 x.1 y.1).val, .int .i64 ((x.2 + y.2 + 1 : Nat) : Int)])
      rw [e1, e2, e3]
      rfl
set_option maxHeartbeats 1000000 in
set_option maxRecDepth 100000 in
theorem text_op3 (w : World) (A : Option Addr) (c d : Nat) (t : Te) (l : List Te) (hd : d ≤ 20) (h4 : t.f0 = 3) (hC : Kd.C k42 w A (t :: l).length (t :: l)) (hc : (t :: l).length ≤ c) (hl : (t :: l).length ≤ 200)
    (x y : Ex × Nat) (hxl : x.1.str.length ≤ 5000) (hyl : y.1.str.length ≤ 5000) (hx2 : x.2 ≤ l.length) (hy2 : y.2 ≤ l.length)
    (ihx : ∀ (A' : Option Addr) (c' : Nat), l.length ≤ c' → Kd.C k42 w A' l.length l → Calls Tryz.prog 4 #[.slice A' l.length c', .int .i64 d] w (TexRes x w))
    (ihy : ∀ (W : World) (A' : Option Addr) (c' : Nat), (l.drop x.2).length ≤ c' → Kd.C k42 W A' (l.drop x.2).length (l.drop x.2) → Calls Tryz.prog 4 #[.slice A' (l.drop x.2).length c', .int .i64 d] W (TexRes y W)) :
    Calls Tryz.prog 4 #[.slice A (t :: l).length c, .int .i64 (d + 1 : Nat)] w (TexRes (.op 3 x.1 y.1, x.2 + y.2 + 1) w) := by
  obtain ⟨ad, rfl, x0, x1⟩ := head_terms hC
  have hcut := cut_terms (l := t :: l) (c := c) (k := 1) (by simp) hc (by decide) hC
  have hx := ihx _ (c - 1) (by have : (t :: l).length = l.length + 1 := rfl; omega) hcut
  have hl1e : (t :: l).length = l.length + 1 := rfl
  have hcy : ∀ W, Below w.heap.size w W → Calls Tryz.prog 4 #[.slice (if c = 1 + x.2 then some ad else some (ad.add ((1 + x.2) * 2))) (l.drop x.2).length (c - (1 + x.2)), .int .i64 d] W (TexRes y W) := fun W hW => by
    have hk := cut_terms (l := t :: l) (c := c) (k := 1 + x.2) (by omega) hc (by omega) (Kd.C_below hC hW)
    have e : (t :: l).drop (1 + x.2) = l.drop x.2 := by rw [Nat.add_comm]; rfl
    have ha : (⟨ad.block, ad.off + (1 + x.2) * 2, none⟩ : Addr) = ad.add ((1 + x.2) * 2) := by
      unfold Addr.add
      rw [if_neg (by omega)]
    rw [e, ha] at hk
    exact ihy W _ (c - (1 + x.2)) (by rw [List.length_drop]; omega) hk
  obtain ⟨n, hn⟩ : ∃ n, (t :: l).length = n := ⟨_, rfl⟩
  have hl1 : l.length = n - 1 := by omega
  obtain ⟨i, hi⟩ : ∃ i, x.2 = i := ⟨_, rfl⟩
  obtain ⟨j, hj⟩ : ∃ j, y.2 = j := ⟨_, rfl⟩
  have hdl : (l.drop x.2).length = n - (1 + i) := by rw [List.length_drop]; omega
  rw [hdl] at hcy
  rw [hi] at hcy
  rw [hl1] at hx
  rw [hn] at hl hc ⊢
  obtain ⟨X, hX⟩ : ∃ X, bs x.1.str = X := ⟨_, rfl⟩
  obtain ⟨Y, hY⟩ : ∃ Y, bs y.1.str = Y := ⟨_, rfl⟩
  have hXs : X.size ≤ 5000 := by rw [← hX, bs_size]; exact hxl
  have hYs : Y.size ≤ 5000 := by rw [← hY, bs_size]; exact hyl
  have o1 : (9223372036854775807 < 1 + X.size) = False := eq_false (by omega)
  have o2 : (9223372036854775807 < 1 + X.size + 3) = False := eq_false (by omega)
  have o3 : (9223372036854775807 < 1 + X.size + 3 + Y.size) = False := eq_false (by omega)
  have o4 : (9223372036854775807 < 1 + X.size + 3 + Y.size + 1) = False := eq_false (by omega)
  have hwi : IntKind.i64.wrap (1 + (i : Int)) = 1 + (i : Int) := IntWalk.i64_in _ (by omega)
  have hwj : IntKind.i64.wrap ((i : Int) + (j : Int)) = (i : Int) + (j : Int) := IntWalk.i64_in _ (by omega)
  have hwk : IntKind.i64.wrap ((i : Int) + (j : Int) + 1) = (i : Int) + (j : Int) + 1 := IntWalk.i64_in _ (by omega)
  have hwd : IntKind.i64.wrap (d : Int) = (d : Int) := IntWalk.i64_in _ (by omega)
  have hwd2 : IntKind.i64.wrap ((d : Int) + 1 - 1) = (d : Int) := by rw [Int.add_sub_cancel]; exact hwd
  have d0 : ((d : Int) + 1 == 0) = false := beq_eq_false_iff_ne.2 (by omega)
  have HE := Lib.hid (And.intro hX (And.intro hi (And.intro hY hj)))
  have hn1 : 1 ≤ n := by rw [← hn]; simp
  have n0 : ((n : Int) == 0) = false := beq_eq_false_iff_ne.2 (by omega)
  have p1 : (0 : Int) < (n : Int) := by omega
  have b0 : 0 ≤ 1 + (i : Int) := by omega
  have b1 : 1 + (i : Int) ≤ (n : Int) := by omega
  have b2 : (1 + (i : Int)).toNat = 1 + i := by omega
  rw [h4] at x0
  have HY := Lib.hid hcy
  clear hC hc hd h4 hl hxl hyl hx2 hy2 ihx ihy hn hl1 hl1e hdl hXs hYs hX hY hi hj hn1 hcut hcy
  by_cases hc1 : c = 1
  all_goals
    first | rw [if_pos hc1] at hx | rw [if_neg hc1] at hx
    have hHX := Lib.hid hx
    first | have hcc : (c = 1) = True := eq_true hc1 | have hcc : (c = 1) = False := eq_false hc1
    clear hx hc1
    by_cases hc2 : c = 1 + i
    all_goals
      have hq := HY.out
      first | rw [if_pos hc2] at hq | rw [if_neg hc2] at hq
      have HYY := Lib.hid hq
      clear hq
      first | have hce : (c = 1 + i) = True := eq_true hc2 | have hce : (c = 1 + i) = False := eq_false hc2
      clear hc2
      go_enter Tryz.func4, Tryz.ntmps4
      go_wp2_with fail
      refine hHX.out.mono ?_
      rintro r w1 ⟨rfl, hb1⟩
      have B1 := Lib.hid hb1
      rw [HE.out.1, HE.out.2.1]
      clear hb1
      go_wp2_with fail
      refine (HYY.out w1 B1.out).mono ?_
      rintro r w2 ⟨rfl, hb2⟩
      have B2 := Lib.hid (B1.out.trans (hb2.mono B1.out.size))
      rw [HE.out.2.2.1, HE.out.2.2.2]
      clear hb2
      go_wp2_with fail
      go_ret3
      refine ⟨?_, B2.out⟩
      have e1 : bs (Ex.op 3 x.1 y.1).str = ⟨#[40]⟩ ++ X ++ ⟨#[32, 42, 32]⟩ ++ Y ++ ⟨#[41]⟩ := by
        rw [str_op, HE.out.1, HE.out.2.2.1]
        rfl
      have e2 : (Ex.op 3 x.1 y.1).val = wrap64 (x.1.val * y.1.val) := IntWalk.i64_left _
      have e3 : ((x.2 + y.2 + 1 : Nat) : Int) = (i : Int) + (j : Int) + 1 := by rw [HE.out.2.1, HE.out.2.2.2]; rfl
      show _ = Ending.returned (.tuple #[.string (bs (Ex.op 3 x.1 y.1).str), .int .i64 (Ex.op 3 x.1 y.1).val, .int .i64 ((x.2 + y.2 + 1 : Nat) : Int)])
      rw [e1, e2, e3]
      rfl
set_option maxHeartbeats 1000000 in
set_option maxRecDepth 100000 in
theorem text_op5 (w : World) (A : Option Addr) (c d : Nat) (t : Te) (l : List Te) (hd : d ≤ 20) (h4 : t.f0 = 5) (hC : Kd.C k42 w A (t :: l).length (t :: l)) (hc : (t :: l).length ≤ c) (hl : (t :: l).length ≤ 200)
    (x y : Ex × Nat) (hxl : x.1.str.length ≤ 5000) (hyl : y.1.str.length ≤ 5000) (hx2 : x.2 ≤ l.length) (hy2 : y.2 ≤ l.length)
    (ihx : ∀ (A' : Option Addr) (c' : Nat), l.length ≤ c' → Kd.C k42 w A' l.length l → Calls Tryz.prog 4 #[.slice A' l.length c', .int .i64 d] w (TexRes x w))
    (ihy : ∀ (W : World) (A' : Option Addr) (c' : Nat), (l.drop x.2).length ≤ c' → Kd.C k42 W A' (l.drop x.2).length (l.drop x.2) → Calls Tryz.prog 4 #[.slice A' (l.drop x.2).length c', .int .i64 d] W (TexRes y W)) :
    Calls Tryz.prog 4 #[.slice A (t :: l).length c, .int .i64 (d + 1 : Nat)] w (TexRes (.op 5 x.1 y.1, x.2 + y.2 + 1) w) := by
  obtain ⟨ad, rfl, x0, x1⟩ := head_terms hC
  have hcut := cut_terms (l := t :: l) (c := c) (k := 1) (by simp) hc (by decide) hC
  have hx := ihx _ (c - 1) (by have : (t :: l).length = l.length + 1 := rfl; omega) hcut
  have hl1e : (t :: l).length = l.length + 1 := rfl
  have hcy : ∀ W, Below w.heap.size w W → Calls Tryz.prog 4 #[.slice (if c = 1 + x.2 then some ad else some (ad.add ((1 + x.2) * 2))) (l.drop x.2).length (c - (1 + x.2)), .int .i64 d] W (TexRes y W) := fun W hW => by
    have hk := cut_terms (l := t :: l) (c := c) (k := 1 + x.2) (by omega) hc (by omega) (Kd.C_below hC hW)
    have e : (t :: l).drop (1 + x.2) = l.drop x.2 := by rw [Nat.add_comm]; rfl
    have ha : (⟨ad.block, ad.off + (1 + x.2) * 2, none⟩ : Addr) = ad.add ((1 + x.2) * 2) := by
      unfold Addr.add
      rw [if_neg (by omega)]
    rw [e, ha] at hk
    exact ihy W _ (c - (1 + x.2)) (by rw [List.length_drop]; omega) hk
  obtain ⟨n, hn⟩ : ∃ n, (t :: l).length = n := ⟨_, rfl⟩
  have hl1 : l.length = n - 1 := by omega
  obtain ⟨i, hi⟩ : ∃ i, x.2 = i := ⟨_, rfl⟩
  obtain ⟨j, hj⟩ : ∃ j, y.2 = j := ⟨_, rfl⟩
  have hdl : (l.drop x.2).length = n - (1 + i) := by rw [List.length_drop]; omega
  rw [hdl] at hcy
  rw [hi] at hcy
  rw [hl1] at hx
  rw [hn] at hl hc ⊢
  obtain ⟨X, hX⟩ : ∃ X, bs x.1.str = X := ⟨_, rfl⟩
  obtain ⟨Y, hY⟩ : ∃ Y, bs y.1.str = Y := ⟨_, rfl⟩
  have hXs : X.size ≤ 5000 := by rw [← hX, bs_size]; exact hxl
  have hYs : Y.size ≤ 5000 := by rw [← hY, bs_size]; exact hyl
  have o1 : (9223372036854775807 < 1 + X.size) = False := eq_false (by omega)
  have o2 : (9223372036854775807 < 1 + X.size + 5) = False := eq_false (by omega)
  have o3 : (9223372036854775807 < 1 + X.size + 5 + Y.size) = False := eq_false (by omega)
  have o4 : (9223372036854775807 < 1 + X.size + 5 + Y.size + 1) = False := eq_false (by omega)
  have hwi : IntKind.i64.wrap (1 + (i : Int)) = 1 + (i : Int) := IntWalk.i64_in _ (by omega)
  have hwj : IntKind.i64.wrap ((i : Int) + (j : Int)) = (i : Int) + (j : Int) := IntWalk.i64_in _ (by omega)
  have hwk : IntKind.i64.wrap ((i : Int) + (j : Int) + 1) = (i : Int) + (j : Int) + 1 := IntWalk.i64_in _ (by omega)
  have hwd : IntKind.i64.wrap (d : Int) = (d : Int) := IntWalk.i64_in _ (by omega)
  have hwd2 : IntKind.i64.wrap ((d : Int) + 1 - 1) = (d : Int) := by rw [Int.add_sub_cancel]; exact hwd
  have d0 : ((d : Int) + 1 == 0) = false := beq_eq_false_iff_ne.2 (by omega)
  have HE := Lib.hid (And.intro hX (And.intro hi (And.intro hY hj)))
  have hn1 : 1 ≤ n := by rw [← hn]; simp
  have n0 : ((n : Int) == 0) = false := beq_eq_false_iff_ne.2 (by omega)
  have p1 : (0 : Int) < (n : Int) := by omega
  have b0 : 0 ≤ 1 + (i : Int) := by omega
  have b1 : 1 + (i : Int) ≤ (n : Int) := by omega
  have b2 : (1 + (i : Int)).toNat = 1 + i := by omega
  rw [h4] at x0
  have HY := Lib.hid hcy
  clear hC hc hd h4 hl hxl hyl hx2 hy2 ihx ihy hn hl1 hl1e hdl hXs hYs hX hY hi hj hn1 hcut hcy
  by_cases hc1 : c = 1
  all_goals
    first | rw [if_pos hc1] at hx | rw [if_neg hc1] at hx
    have hHX := Lib.hid hx
    first | have hcc : (c = 1) = True := eq_true hc1 | have hcc : (c = 1) = False := eq_false hc1
    clear hx hc1
    by_cases hc2 : c = 1 + i
    all_goals
      have hq := HY.out
      first | rw [if_pos hc2] at hq | rw [if_neg hc2] at hq
      have HYY := Lib.hid hq
      clear hq
      first | have hce : (c = 1 + i) = True := eq_true hc2 | have hce : (c = 1 + i) = False := eq_false hc2
      clear hc2
      go_enter Tryz.func4, Tryz.ntmps4
      go_wp2_with fail
      refine hHX.out.mono ?_
      rintro r w1 ⟨rfl, hb1⟩
      have B1 := Lib.hid hb1
      rw [HE.out.1, HE.out.2.1]
      clear hb1
      go_wp2_with fail
      refine (HYY.out w1 B1.out).mono ?_
      rintro r w2 ⟨rfl, hb2⟩
      have B2 := Lib.hid (B1.out.trans (hb2.mono B1.out.size))
      rw [HE.out.2.2.1, HE.out.2.2.2]
      clear hb2
      go_wp2_with fail
      go_ret3
      refine ⟨?_, B2.out⟩
      have e1 : bs (Ex.op 5 x.1 y.1).str = ⟨#[40]⟩ ++ X ++ ⟨#[32, 97, 110, 100, 32]⟩ ++ Y ++ ⟨#[41]⟩ := by
        rw [str_op, HE.out.1, HE.out.2.2.1]
        rfl
      have e2 : (Ex.op 5 x.1 y.1).val = y.1.val := rfl
      have e3 : ((x.2 + y.2 + 1 : Nat) : Int) = (i : Int) + (j : Int) + 1 := by rw [HE.out.2.1, HE.out.2.2.2]; rfl
      show _ = Ending.returned (.tuple #[.string (bs (Ex.op 5 x.1 y.1).str), .int .i64 (Ex.op 5 x.1 y.1).val, .int .i64 ((x.2 + y.2 + 1 : Nat) : Int)])
      rw [e1, e2, e3]
      rfl
set_option maxHeartbeats 1000000 in
set_option maxRecDepth 100000 in
theorem text_op6 (w : World) (A : Option Addr) (c d : Nat) (t : Te) (l : List Te) (hd : d ≤ 20) (h4 : t.f0 = 6) (hC : Kd.C k42 w A (t :: l).length (t :: l)) (hc : (t :: l).length ≤ c) (hl : (t :: l).length ≤ 200)
    (x y : Ex × Nat) (hxl : x.1.str.length ≤ 5000) (hyl : y.1.str.length ≤ 5000) (hx2 : x.2 ≤ l.length) (hy2 : y.2 ≤ l.length)
    (ihx : ∀ (A' : Option Addr) (c' : Nat), l.length ≤ c' → Kd.C k42 w A' l.length l → Calls Tryz.prog 4 #[.slice A' l.length c', .int .i64 d] w (TexRes x w))
    (ihy : ∀ (W : World) (A' : Option Addr) (c' : Nat), (l.drop x.2).length ≤ c' → Kd.C k42 W A' (l.drop x.2).length (l.drop x.2) → Calls Tryz.prog 4 #[.slice A' (l.drop x.2).length c', .int .i64 d] W (TexRes y W)) :
    Calls Tryz.prog 4 #[.slice A (t :: l).length c, .int .i64 (d + 1 : Nat)] w (TexRes (.op 6 x.1 y.1, x.2 + y.2 + 1) w) := by
  obtain ⟨ad, rfl, x0, x1⟩ := head_terms hC
  have hcut := cut_terms (l := t :: l) (c := c) (k := 1) (by simp) hc (by decide) hC
  have hx := ihx _ (c - 1) (by have : (t :: l).length = l.length + 1 := rfl; omega) hcut
  have hl1e : (t :: l).length = l.length + 1 := rfl
  have hcy : ∀ W, Below w.heap.size w W → Calls Tryz.prog 4 #[.slice (if c = 1 + x.2 then some ad else some (ad.add ((1 + x.2) * 2))) (l.drop x.2).length (c - (1 + x.2)), .int .i64 d] W (TexRes y W) := fun W hW => by
    have hk := cut_terms (l := t :: l) (c := c) (k := 1 + x.2) (by omega) hc (by omega) (Kd.C_below hC hW)
    have e : (t :: l).drop (1 + x.2) = l.drop x.2 := by rw [Nat.add_comm]; rfl
    have ha : (⟨ad.block, ad.off + (1 + x.2) * 2, none⟩ : Addr) = ad.add ((1 + x.2) * 2) := by
      unfold Addr.add
      rw [if_neg (by omega)]
    rw [e, ha] at hk
    exact ihy W _ (c - (1 + x.2)) (by rw [List.length_drop]; omega) hk
  obtain ⟨n, hn⟩ : ∃ n, (t :: l).length = n := ⟨_, rfl⟩
  have hl1 : l.length = n - 1 := by omega
  obtain ⟨i, hi⟩ : ∃ i, x.2 = i := ⟨_, rfl⟩
  obtain ⟨j, hj⟩ : ∃ j, y.2 = j := ⟨_, rfl⟩
  have hdl : (l.drop x.2).length = n - (1 + i) := by rw [List.length_drop]; omega
  rw [hdl] at hcy
  rw [hi] at hcy
  rw [hl1] at hx
  rw [hn] at hl hc ⊢
  obtain ⟨X, hX⟩ : ∃ X, bs x.1.str = X := ⟨_, rfl⟩
  obtain ⟨Y, hY⟩ : ∃ Y, bs y.1.str = Y := ⟨_, rfl⟩
  have hXs : X.size ≤ 5000 := by rw [← hX, bs_size]; exact hxl
  have hYs : Y.size ≤ 5000 := by rw [← hY, bs_size]; exact hyl
  have o1 : (9223372036854775807 < 1 + X.size) = False := eq_false (by omega)
  have o2 : (9223372036854775807 < 1 + X.size + 4) = False := eq_false (by omega)
  have o3 : (9223372036854775807 < 1 + X.size + 4 + Y.size) = False := eq_false (by omega)
  have o4 : (9223372036854775807 < 1 + X.size + 4 + Y.size + 1) = False := eq_false (by omega)
  have hwi : IntKind.i64.wrap (1 + (i : Int)) = 1 + (i : Int) := IntWalk.i64_in _ (by omega)
  have hwj : IntKind.i64.wrap ((i : Int) + (j : Int)) = (i : Int) + (j : Int) := IntWalk.i64_in _ (by omega)
  have hwk : IntKind.i64.wrap ((i : Int) + (j : Int) + 1) = (i : Int) + (j : Int) + 1 := IntWalk.i64_in _ (by omega)
  have hwd : IntKind.i64.wrap (d : Int) = (d : Int) := IntWalk.i64_in _ (by omega)
  have hwd2 : IntKind.i64.wrap ((d : Int) + 1 - 1) = (d : Int) := by rw [Int.add_sub_cancel]; exact hwd
  have d0 : ((d : Int) + 1 == 0) = false := beq_eq_false_iff_ne.2 (by omega)
  have HE := Lib.hid (And.intro hX (And.intro hi (And.intro hY hj)))
  have hn1 : 1 ≤ n := by rw [← hn]; simp
  have n0 : ((n : Int) == 0) = false := beq_eq_false_iff_ne.2 (by omega)
  have p1 : (0 : Int) < (n : Int) := by omega
  have b0 : 0 ≤ 1 + (i : Int) := by omega
  have b1 : 1 + (i : Int) ≤ (n : Int) := by omega
  have b2 : (1 + (i : Int)).toNat = 1 + i := by omega
  rw [h4] at x0
  have HY := Lib.hid hcy
  clear hC hc hd h4 hl hxl hyl hx2 hy2 ihx ihy hn hl1 hl1e hdl hXs hYs hX hY hi hj hn1 hcut hcy
  by_cases hc1 : c = 1
  all_goals
    first | rw [if_pos hc1] at hx | rw [if_neg hc1] at hx
    have hHX := Lib.hid hx
    first | have hcc : (c = 1) = True := eq_true hc1 | have hcc : (c = 1) = False := eq_false hc1
    clear hx hc1
    by_cases hc2 : c = 1 + i
    all_goals
      have hq := HY.out
      first | rw [if_pos hc2] at hq | rw [if_neg hc2] at hq
      have HYY := Lib.hid hq
      clear hq
      first | have hce : (c = 1 + i) = True := eq_true hc2 | have hce : (c = 1 + i) = False := eq_false hc2
      clear hc2
      go_enter Tryz.func4, Tryz.ntmps4
      go_wp2_with fail
      refine hHX.out.mono ?_
      rintro r w1 ⟨rfl, hb1⟩
      have B1 := Lib.hid hb1
      rw [HE.out.1, HE.out.2.1]
      clear hb1
      go_wp2_with fail
      refine (HYY.out w1 B1.out).mono ?_
      rintro r w2 ⟨rfl, hb2⟩
      have B2 := Lib.hid (B1.out.trans (hb2.mono B1.out.size))
      rw [HE.out.2.2.1, HE.out.2.2.2]
      clear hb2
      go_wp2_with fail
      go_ret3
      refine ⟨?_, B2.out⟩
      have e1 : bs (Ex.op 6 x.1 y.1).str = ⟨#[40]⟩ ++ X ++ ⟨#[32, 111, 114, 32]⟩ ++ Y ++ ⟨#[41]⟩ := by
        rw [str_op, HE.out.1, HE.out.2.2.1]
        rfl
      have e2 : (Ex.op 6 x.1 y.1).val = x.1.val := rfl
      have e3 : ((x.2 + y.2 + 1 : Nat) : Int) = (i : Int) + (j : Int) + 1 := by rw [HE.out.2.1, HE.out.2.2.2]; rfl
      show _ = Ending.returned (.tuple #[.string (bs (Ex.op 6 x.1 y.1).str), .int .i64 (Ex.op 6 x.1 y.1).val, .int .i64 ((x.2 + y.2 + 1 : Nat) : Int)])
      rw [e1, e2, e3]
      rfl
end Go.Proofs.YtaoippnipcchmaaGreatDoor.PT
/- TopCode: the statement's text, whole: its walk over every list of terms. -/
namespace Go.Proofs.YtaoippnipcchmaaGreatDoor.PT
open Go.RowKit Go.Proofs.YtaoippnipcchmaaGreatDoorW.PrintWords Go.Proofs.YtaoippnipcchmaaGreatDoorW.PrintLast Go.Proofs.YtaoippnipcchmaaGreatDoorW.PrintMore
open Go.Proofs.YtaoippnipcchmaaGreatDoor.TP
set_option linter.unusedVariables false
set_option linter.unusedSimpArgs false

theorem texL_len (d : Nat) (l : List Te) (hl : l.length ≤ 200) : (texL d l).1.str.length ≤ 5000 := by
  obtain ⟨h1, h2, h3, _⟩ := texL_spec d l
  have h4 := str_len _ h1
  omega
theorem text_call : ∀ (d : Nat), d ≤ 20 → ∀ (l : List Te), l.length ≤ 200 → ∀ (w : World) (A : Option Addr) (c : Nat), l.length ≤ c → Kd.C k42 w A l.length l → Calls Tryz.prog 4 #[.slice A l.length c, .int .i64 d] w (TexRes (texL d l) w)
  | d, _, [], _, w, A, c, _, _ => by
    have e : texL d [] = (.num 1, 0) := by cases d <;> rfl
    rw [e]
    exact text_nil w A c d
  | 0, hd, t :: l, hl, w, A, c, hc, hC => text_num w A c 0 t l hd (.inl rfl) hC hc hl
  | d + 1, hd, t :: l, hl, w, A, c, hc, hC => by
    have hl1 : l.length ≤ 200 := by have : (t :: l).length = l.length + 1 := rfl; omega
    have hd1 : d ≤ 20 := by omega
    have hx : ∀ (w : World) (A' : Option Addr) (c' : Nat), l.length ≤ c' → Kd.C k42 w A' l.length l → Calls Tryz.prog 4 #[.slice A' l.length c', .int .i64 d] w (TexRes (texL d l) w) := fun w A' c' h1 h2 => text_call d hd1 l hl1 w A' c' h1 h2
    obtain ⟨_, s2, _, _⟩ := texL_spec d l
    have hdl : (l.drop (texL d l).2).length ≤ 200 := by rw [List.length_drop]; omega
    have hy : ∀ (w : World) (A' : Option Addr) (c' : Nat), (l.drop (texL d l).2).length ≤ c' → Kd.C k42 w A' (l.drop (texL d l).2).length (l.drop (texL d l).2) → Calls Tryz.prog 4 #[.slice A' (l.drop (texL d l).2).length c', .int .i64 d] w (TexRes (texL d (l.drop (texL d l).2)) w) := fun w A' c' h1 h2 => text_call d hd1 _ hdl w A' c' h1 h2
    have hyl := texL_len d (l.drop (texL d l).2) hdl
    obtain ⟨_, s3, _, _⟩ := texL_spec d (l.drop (texL d l).2)
    rw [List.length_drop] at s3
    have hy2 : (texL d (l.drop (texL d l).2)).2 ≤ l.length := by omega
    by_cases h1 : t.f0 < 1 ∨ 6 < t.f0
    · have e : texL (d + 1) (t :: l) = (.num (numT t.f1), 1) := by
        show (if t.f0 < 1 ∨ 6 < t.f0 then _ else if t.f0 = 4 then _ else _) = _
        rw [if_pos h1]
      rw [e]
      exact text_num w A c (d + 1) t l hd (.inr h1) hC hc hl
    · by_cases h4 : t.f0 = 4
      · have e : texL (d + 1) (t :: l) = (.neg (texL d l).1, (texL d l).2 + 1) := by
          show (if t.f0 < 1 ∨ 6 < t.f0 then _ else if t.f0 = 4 then _ else _) = _
          rw [if_neg h1, if_pos h4]
        rw [e]
        exact text_neg w A c d t l hd1 h4 hC hc hl _ (texL_len d l hl1) s2 (hx w)
      · have e : ∀ o : Nat, t.f0 = o → texL (d + 1) (t :: l) = (.op o (texL d l).1 (texL d (l.drop (texL d l).2)).1, (texL d l).2 + (texL d (l.drop (texL d l).2)).2 + 1) := fun o ho => by
          show (if t.f0 < 1 ∨ 6 < t.f0 then _ else if t.f0 = 4 then _ else _) = _
          rw [if_neg h1, if_neg h4, ho]
          rfl
        rcases (show t.f0 = (1 : Nat) ∨ t.f0 = (2 : Nat) ∨ t.f0 = (3 : Nat) ∨ t.f0 = (5 : Nat) ∨ t.f0 = (6 : Nat) by omega) with ho | ho | ho | ho | ho
        · rw [e 1 ho]
          exact text_op1 w A c d t l hd1 ho hC hc hl _ _ (texL_len d l hl1) hyl s2 hy2 (hx w) hy
        · rw [e 2 ho]
          exact text_op2 w A c d t l hd1 ho hC hc hl _ _ (texL_len d l hl1) hyl s2 hy2 (hx w) hy
        · rw [e 3 ho]
          exact text_op3 w A c d t l hd1 ho hC hc hl _ _ (texL_len d l hl1) hyl s2 hy2 (hx w) hy
        · rw [e 5 ho]
          exact text_op5 w A c d t l hd1 ho hC hc hl _ _ (texL_len d l hl1) hyl s2 hy2 (hx w) hy
        · rw [e 6 ho]
          exact text_op6 w A c d t l hd1 ho hC hc hl _ _ (texL_len d l hl1) hyl s2 hy2 (hx w) hy
end Go.Proofs.YtaoippnipcchmaaGreatDoor.PT
/- TopCode: the law's walk. -/
namespace Go.Proofs.YtaoippnipcchmaaGreatDoor.PT
open Go.RowKit Go.Proofs.YtaoippnipcchmaaGreatDoorW.PrintWords Go.Proofs.YtaoippnipcchmaaGreatDoorW.PrintLast Go.Proofs.YtaoippnipcchmaaGreatDoorW.PrintMore
open Go.Proofs.YtaoippnipcchmaaGreatDoor.TP
set_option linter.unusedVariables false
set_option linter.unusedSimpArgs false

theorem two_new (w : World) (v0 v1 : Value) : ∃ w', (w.alloc (.cells #[v0, v1] 28)).alloc (.cells #[.int .i64 0, .int .i64 0] 31) = w' ∧ Below w.heap.size w w' ∧ w'.heap[w.heap.size]? = some (.cells #[v0, v1] 28 (0, 0)) ∧ w'.heap[w.heap.size + 1]? = some (.cells #[.int .i64 0, .int .i64 0] 31 (0, 0)) :=
  ⟨_, rfl, ((Below.refl _ _).alloc (Nat.le_refl _) _).alloc (by simp) _, (Below.heap_alloc _ _ _ (by simp)).trans (heap_alloc_new _ _), by have := heap_alloc_new (w.alloc (.cells #[v0, v1] 28)) (.cells #[.int .i64 0, .int .i64 0] 31); simpa using this⟩
theorem cell_on {w w' : World} (hb : Below w.heap.size w w') {p : Addr} {v : Value} (h : w.cell? p = some v) : w'.cell? p = some v := by
  refine (hb.cell ?_).trans h
  rcases Nat.lt_or_ge p.block w.heap.size with hp | hp
  · exact hp
  · exfalso
    unfold World.cell? at h
    rw [Array.getElem?_eq_none hp] at h
    cases h
attribute [local go_sem] max2_int min2_int max_two min_two max_three min_three max_four min_four
set_option maxHeartbeats 4000000 in
set_option maxRecDepth 100000 in
theorem top_call (A : Option Addr) (c : Nat) (l : List Te) (w : World) (hc : l.length ≤ c) (h63 : l.length < 9223372036854775808) (hC : Kd.C k42 w A l.length l) (hT : Tabs w) :
    Calls Tryz.prog 3 #[.slice A l.length c] w fun r w' => r = .returned (.bool true) ∧ Below w.heap.size w w' := by
  obtain ⟨m, hm, hmn, hmm⟩ : ∃ m : Nat, m ≤ 120 ∧ m ≤ l.length ∧ (120 < l.length ∧ m = 120 ∨ l.length ≤ 120 ∧ m = l.length) := by
    by_cases h : 120 < l.length
    · exact ⟨120, Nat.le_refl _, by omega, .inl ⟨h, rfl⟩⟩
    · exact ⟨l.length, by omega, Nat.le_refl _, .inr ⟨by omega, rfl⟩⟩
  have hCt := Kd.C_take hC hmn
  have hlt : (l.take m).length = m := by rw [List.length_take]; omega
  obtain ⟨L, hL⟩ : ∃ L, l.take m = L := ⟨_, rfl⟩
  rw [hL] at hCt hlt
  have htx := text_call 12 (by decide) L (by omega) w A c (by omega) hCt
  rw [hlt] at htx
  have HTX := Lib.hid htx
  obtain ⟨s1, s2, s3, s4⟩ := texL_spec 12 L
  have s5 := texL_len 12 L (by omega)
  obtain ⟨x, hx⟩ : ∃ x, texL 12 L = x := ⟨_, rfl⟩
  rw [hx] at s1 s2 s3 s4 s5 HTX
  have HO := Lib.hid (And.intro s1 (And.intro (show x.1.ops ≤ 120 by omega) (show x.1.high ≤ 12 by omega)))
  obtain ⟨X, hX⟩ : ∃ X, bs x.1.str = X := ⟨_, rfl⟩
  have hXs : X.size ≤ 5000 := by rw [← hX, bs_size]; exact s5
  have o1 : (9223372036854775807 < 7 + X.size) = False := eq_false (by omega)
  have hsrc : (⟨#[114, 101, 116, 117, 114, 110, 32]⟩ : ByteArray) ++ X = bs (srcL x.1) := by
    rw [← hX]; unfold srcL; rw [bs_app]; rfl
  have HX := Lib.hid hX
  obtain ⟨n, hn⟩ : ∃ n, l.length = n := ⟨_, rfl⟩
  have hcm : m ≤ c := by omega
  rw [hn] at hc h63 hmm hmn ⊢
  have HT := Lib.hid hT
  have hmm' : (120 < (n : Int)) ∧ m = 120 ∨ (n : Int) ≤ 120 ∧ m = n := by omega
  clear hC hCt hlt hL htx s1 s2 s3 s4 s5 hx hX hXs hn hT hmm hmn hm h63
  rcases hmm' with ⟨h1, rfl⟩ | ⟨h1, rfl⟩
  all_goals
    go_enter Tryz.func3, Tryz.ntmps3
    go_wp2_with fail
    refine HTX.out.mono ?_
    rintro r w1 ⟨rfl, hb1⟩
    have B1 := Lib.hid hb1
    rw [HX.out]
    clear hb1
    go_wp2_with fail
    refine (gen_ex_call x.1 HO.out.1 (Nat.le_trans HO.out.2.1 (by decide)) (Nat.le_trans HO.out.2.2 (by decide)) w1 (HT.out.below B1.out)).mono ?_
    rintro r w2 ⟨line, v, rfl, ⟨bu, cu, P, pc, Q, qc, rfl, u0, u1, u2, u3, u4, hpc, hqc, hP, hQ⟩, hb2⟩
    have B2 := Lib.hid (B1.out.trans (hb2.mono B1.out.size))
    have HU := Lib.hid (And.intro u0 (And.intro u1 (And.intro u2 (And.intro u3 (And.intro u4 (And.intro hpc (And.intro hqc (And.intro hP hQ))))))))
    clear hb2 u0 u1 u2 u3 u4 hpc hqc hP hQ
    go_upto_region 3 with (fail)
    obtain ⟨w3, hw3, hb3, g0, g1⟩ := two_new w2 (.slice (some ⟨bu, 0, none⟩) 1 cu) (.slice none 0 0)
    rw [hw3]
    have B3 := Lib.hid (B2.out.trans (hb3.mono B2.out.size))
    have u0 := cell_on hb3 HU.out.1
    have u1 := cell_on hb3 HU.out.2.1
    have u2 := cell_on hb3 HU.out.2.2.1
    have u3 := cell_on hb3 HU.out.2.2.2.1
    have u4 := cell_on hb3 HU.out.2.2.2.2.1
    have HR := Lib.hid (trestletop_run.calls 4000 ⟨#[]⟩ 0 0 P pc (valsOf (x.1.cons [])) Q qc (ixs (codeOf line (x.1.cons []) x.1)) _ _ w3 (by have := Kd.C_below HU.out.2.2.2.2.2.2.2.1 hb3; simpa [valsOf] using this) (by simpa [valsOf] using HU.out.2.2.2.2.2.1) (by have := Kd.C_below HU.out.2.2.2.2.2.2.2.2 hb3; simpa [ixs] using this) (by simpa [ixs] using HU.out.2.2.2.2.2.2.1) (run_code line x.1 HO.out.1 HO.out.2.1))
    have hv1 : (valsOf (x.1.cons [])).length = (x.1.cons []).length := by simp [valsOf]
    have hv2 : (ixs (codeOf line (x.1.cons []) x.1)).length = (codeOf line (x.1.cons []) x.1).length := by simp [ixs]
    rw [hv1, hv2] at HR
    obtain ⟨p1, p2, -, -⟩ := two_of g0
    obtain ⟨q1, q2, -, -⟩ := two_of g1
    clear hw3 hb3 g0 g1 hv1 hv2
    go_wp2_with fail
    refine HR.out.mono ?_
    rintro r w4 ⟨rfl, hb4⟩
    have B4 := Lib.hid (B3.out.trans (hb4.mono B3.out.size))
    have hvv : (x.1.val == x.1.val) = true := beq_self_eq_true _
    clear hb4 p1 p2 q1 q2 u0 u1 u2 u3 u4
    go_wp2_with fail
    go_ret
    exact ⟨rfl, B4.out⟩
end Go.Proofs.YtaoippnipcchmaaGreatDoor.PT
