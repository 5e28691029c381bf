import Derived.IntWalk
/- TopCode, plain: expressions over whole numbers, their texts, tokens, trees, values, codes. -/
namespace Go.Proofs.YtaoippnipcchmaaGreatDoor.TP
set_option linter.unusedVariables false
set_option linter.unusedSimpArgs false

/-- An expression over whole numbers: a number, a binary operation (1 + 2 - 3 * 5 and 6 or), a negation. -/
inductive Ex where
  | num (n : Nat)
  | op (o : Nat) (a b : Ex)
  | neg (a : Ex)
abbrev wrap (x : Int) : Int := IntKind.i64.wrap x
def opV : Nat → Int → Int → Int
  | 1, x, y => wrap (x + y)
  | 2, x, y => wrap (x - y)
  | 3, x, y => wrap (x * y)
  | 5, _, y => y
  | _, x, _ => x
def Ex.val : Ex → Int
  | .num n => n
  | .op o a b => opV o a.val b.val
  | .neg a => wrap (-a.val)
/-- The digits of a number below ten to the eighth. -/
def digF : Nat → Nat → List UInt8 → List UInt8
  | 0, _, acc => acc
  | k + 1, n, acc => if n = 0 then acc else digF k (n / 10) (UInt8.ofNat (48 + n % 10) :: acc)
def dig (n : Nat) : List UInt8 := if n = 0 then [48] else digF 8 n []
def opT : Nat → List UInt8
  | 1 => [43]
  | 2 => [45]
  | 3 => [42]
  | 5 => [97, 110, 100]
  | _ => [111, 114]
def opK (o : Nat) : Int := if o = 5 ∨ o = 6 then 2 else 5
def Ex.str : Ex → List UInt8
  | .num n => dig n
  | .op o a b => [40] ++ a.str ++ [32] ++ opT o ++ [32] ++ b.str ++ [41]
  | .neg a => [40, 45, 32] ++ a.str ++ [41]
/-- A token: its kind, its text, its number. -/
structure Tok where
  kind : Int
  text : List UInt8
  n : Int
def tOpen : Tok := ⟨5, [40], 0⟩
def tClose : Tok := ⟨5, [41], 0⟩
def tMinus : Tok := ⟨5, [45], 0⟩
def tNum (n : Nat) : Tok := ⟨3, dig n, n⟩
def tOp (o : Nat) : Tok := ⟨opK o, opT o, 0⟩
def tRet : Tok := ⟨2, [114, 101, 116, 117, 114, 110], 0⟩
def tEnd : Tok := ⟨6, [], 0⟩
/-- Tokens with the blanks ahead of them. -/
def Ex.lx : List UInt8 → Ex → List (List UInt8 × Tok)
  | p, .num n => [(p, tNum n)]
  | p, .op o a b => (p, tOpen) :: (a.lx [] ++ ([32], tOp o) :: (b.lx [32] ++ [([], tClose)]))
  | p, .neg a => (p, tOpen) :: ([], tMinus) :: (a.lx [32] ++ [([], tClose)])
def Ex.toks : Ex → List Tok
  | .num n => [tNum n]
  | .op o a b => tOpen :: (a.toks ++ tOp o :: (b.toks ++ [tClose]))
  | .neg a => tOpen :: tMinus :: (a.toks ++ [tClose])
def flat (l : List (List UInt8 × Tok)) : List UInt8 := l.flatMap (fun x => x.1 ++ x.2.text)
theorem flat_cons (p : List UInt8) (t : Tok) (l : List (List UInt8 × Tok)) : flat ((p, t) :: l) = p ++ t.text ++ flat l := by simp [flat]
theorem flat_nil : flat [] = [] := rfl
theorem flat_append (l m : List (List UInt8 × Tok)) : flat (l ++ m) = flat l ++ flat m := by simp [flat]
theorem flat_lx (e : Ex) : ∀ p, flat (e.lx p) = p ++ e.str := by
  induction e with
  | num n => intro p; simp [Ex.lx, Ex.str, flat, tNum]
  | op o a b iha ihb =>
    intro p
    simp [Ex.lx, Ex.str, flat_cons, flat_append, flat_nil, iha, ihb, tOpen, tOp, tClose]
  | neg a ih =>
    intro p
    simp [Ex.lx, Ex.str, flat_cons, flat_append, flat_nil, ih, tOpen, tMinus, tClose]
theorem toks_lx (e : Ex) : ∀ p, (e.lx p).map (·.2) = e.toks := by
  induction e with
  | num n => intro p; rfl
  | op o a b iha ihb => intro p; simp [Ex.lx, Ex.toks, iha, ihb]
  | neg a ih => intro p; simp [Ex.lx, Ex.toks, ih]
/-- An expression in form: its operations, its numbers. -/
def Ex.ok : Ex → Prop
  | .num n => n < 1048576
  | .op o a b => (o = 1 ∨ o = 2 ∨ o = 3 ∨ o = 5 ∨ o = 6) ∧ a.ok ∧ b.ok
  | .neg a => a.ok
/-- Its height, its leaves, its operations. -/
def Ex.high : Ex → Nat
  | .num _ => 0
  | .op _ a b => max a.high b.high + 1
  | .neg a => a.high + 1
def Ex.ops : Ex → Nat
  | .num _ => 0
  | .op _ a b => a.ops + b.ops + 1
  | .neg a => a.ops + 1
/-- The numbers, from the left. -/
def Ex.nums : Ex → List Nat
  | .num n => [n]
  | .op _ a b => a.nums ++ b.nums
  | .neg a => a.nums
theorem nums_len (e : Ex) : e.nums.length ≤ e.ops + 1 := by
  induction e with
  | num n => simp [Ex.nums, Ex.ops]
  | op o a b iha ihb => simp [Ex.nums, Ex.ops]; omega
  | neg a ih => simp [Ex.nums, Ex.ops]; omega
/-- Each number where it comes first. -/
def addN (cs : List Int) (n : Nat) : List Int := if (n : Int) ∈ cs then cs else cs ++ [(n : Int)]
def Ex.cons (e : Ex) (cs : List Int) : List Int := e.nums.foldl addN cs
theorem addN_len (cs : List Int) (n : Nat) : (addN cs n).length ≤ cs.length + 1 := by
  unfold addN; split <;> simp
theorem foldl_len (l : List Nat) : ∀ cs, (l.foldl addN cs).length ≤ cs.length + l.length := by
  induction l with
  | nil => intro cs; simp
  | cons n l ih => intro cs; have := ih (addN cs n); have := addN_len cs n; simp only [List.foldl_cons, List.length_cons]; omega
theorem foldl_sub (l : List Nat) : ∀ cs x, x ∈ cs → x ∈ l.foldl addN cs := by
  induction l with
  | nil => intro cs x h; exact h
  | cons n l ih => intro cs x h; exact ih _ x (by unfold addN; split <;> simp [h])
theorem foldl_mem (l : List Nat) : ∀ cs (n : Nat), n ∈ l → (n : Int) ∈ l.foldl addN cs := by
  induction l with
  | nil => intro cs n h; simp at h
  | cons m l ih =>
    intro cs n h
    rcases List.mem_cons.1 h with rfl | h
    · refine foldl_sub l _ _ ?_
      unfold addN
      split
      · assumption
      · simp
    · exact ih _ n h
/-- An instruction. -/
structure In where
  op : Int
  a : Int
  b : Int
  c : Int
/-- The place of a number among the constants, from 1 on. -/
def idx (cs : List Int) (n : Int) : Int := (cs.idxOf n : Int) + 1
/-- The code, laid from number p on. -/
def Ex.code (cs : List Int) : Ex → Nat → List In
  | .num n, _ => [⟨2, idx cs n, 0, 0⟩]
  | .op o a b, p =>
    if o = 5 ∨ o = 6 then a.code cs p ++ ⟨if o = 5 then 20 else 21, ((p + (a.code cs p).length + 1 + (b.code cs (p + (a.code cs p).length + 1)).length : Nat) : Int), 0, 0⟩ :: b.code cs (p + (a.code cs p).length + 1)
    else a.code cs p ++ b.code cs (p + (a.code cs p).length) ++ [⟨17, o, 0, 0⟩]
  | .neg a, p => a.code cs p ++ [⟨16, 3, 0, 0⟩]
def Ex.size : Ex → Nat
  | .num _ => 1
  | .op _ a b => a.size + b.size + 1
  | .neg a => a.size + 1
theorem code_len (cs : List Int) (e : Ex) : ∀ p, (e.code cs p).length = e.size := by
  induction e with
  | num n => intro p; rfl
  | op o a b iha ihb =>
    intro p
    unfold Ex.code Ex.size
    split
    · simp [iha, ihb]; omega
    · simp [iha, ihb]; omega
  | neg a ih => intro p; simp [Ex.code, Ex.size, ih]
theorem size_ops (e : Ex) : e.size ≤ 2 * e.ops + 1 := by
  induction e with
  | num n => simp [Ex.size, Ex.ops]
  | op o a b iha ihb => simp [Ex.size, Ex.ops]; omega
  | neg a ih => simp [Ex.size, Ex.ops]; omega
end Go.Proofs.YtaoippnipcchmaaGreatDoor.TP
/- TopCode, plain: a machine that knows numbers alone comes to the value. -/
namespace Go.Proofs.YtaoippnipcchmaaGreatDoor.TP
set_option linter.unusedVariables false
set_option linter.unusedSimpArgs false

/-- From there, with that stack, the machine returns v in so many steps. -/
inductive Fin (code : List In) (cs : List Int) (v : Int) : Nat → List Int → Nat → Prop
  | ret {at_ : Nat} {i : In} (h : code[at_]? = some i) (ho : i.op = 25) : Fin code cs v at_ [v] 1
  | line {at_ m : Nat} {st : List Int} {i : In} (h : code[at_]? = some i) (ho : i.op = 1 ∨ i.op = 22) (hn : Fin code cs v (at_ + 1) st m) : Fin code cs v at_ st (m + 1)
  | const {at_ m : Nat} {st : List Int} {i : In} {j : Nat} {x : Int} (h : code[at_]? = some i) (ho : i.op = 2) (ha : i.a = (j : Int) + 1) (hx : cs[j]? = some x) (hn : Fin code cs v (at_ + 1) (st ++ [x]) m) : Fin code cs v at_ st (m + 1)
  | una {at_ m : Nat} {st : List Int} {x : Int} {i : In} (h : code[at_]? = some i) (ho : i.op = 16) (ha : i.a = 3) (hn : Fin code cs v (at_ + 1) (st ++ [wrap (-x)]) m) : Fin code cs v at_ (st ++ [x]) (m + 1)
  | bin {at_ m o : Nat} {st : List Int} {x y : Int} {i : In} (h : code[at_]? = some i) (ho : i.op = 17) (ha : i.a = o) (h3 : o = 1 ∨ o = 2 ∨ o = 3) (hn : Fin code cs v (at_ + 1) (st ++ [opV o x y]) m) : Fin code cs v at_ (st ++ [x, y]) (m + 1)
  | and {at_ m : Nat} {st : List Int} {x : Int} {i : In} (h : code[at_]? = some i) (ho : i.op = 20) (hn : Fin code cs v (at_ + 1) st m) : Fin code cs v at_ (st ++ [x]) (m + 1)
  | or {at_ m t : Nat} {st : List Int} {x : Int} {i : In} (h : code[at_]? = some i) (ho : i.op = 21) (ha : i.a = t) (hn : Fin code cs v t (st ++ [x]) m) : Fin code cs v at_ (st ++ [x]) (m + 1)
/-- That code lies there. -/
def Lies (code : List In) (p : Nat) (l : List In) : Prop := ∀ i x, l[i]? = some x → code[p + i]? = some x
theorem Lies.left {code : List In} {p : Nat} {l m : List In} (h : Lies code p (l ++ m)) : Lies code p l := fun i x hx => h i x (by rw [List.getElem?_append_left (List.getElem?_eq_some_iff.1 hx).1]; exact hx)
theorem Lies.right {code : List In} {p : Nat} {l m : List In} (h : Lies code p (l ++ m)) : Lies code (p + l.length) m := fun i x hx => by
  rw [Nat.add_assoc]
  exact h _ x (by rw [List.getElem?_append_right (by omega)]; simpa using hx)
theorem Lies.head {code : List In} {p : Nat} {x : In} {m : List In} (h : Lies code p (x :: m)) : code[p]? = some x := h 0 x rfl
theorem Lies.tail {code : List In} {p : Nat} {x : In} {m : List In} (h : Lies code p (x :: m)) : Lies code (p + 1) m := fun i y hy => by
  have := h (i + 1) y (by simpa using hy)
  rw [show p + 1 + i = p + (i + 1) by omega]
  exact this
theorem fin_code {code : List In} {cs : List Int} {v : Int} (e : Ex) : ∀ (p : Nat) (st : List Int) (m : Nat), e.ok → (∀ n ∈ e.nums, (n : Int) ∈ cs) → Lies code p (e.code cs p) → Fin code cs v (p + e.size) (st ++ [e.val]) m → ∃ m', m' ≤ m + e.size ∧ Fin code cs v p st m' := by
  induction e with
  | num n =>
    intro p st m hok hc hl hf
    have hm : (n : Int) ∈ cs := hc n (by simp [Ex.nums])
    have hi : cs.idxOf (n : Int) < cs.length := List.idxOf_lt_length_iff.2 hm
    refine ⟨m + 1, Nat.le_refl _, .const (j := cs.idxOf (n : Int)) (x := (n : Int)) hl.head rfl rfl ?_ hf⟩
    rw [List.getElem?_eq_getElem hi, List.getElem_idxOf]
  | op o a b iha ihb =>
    intro p st m hok hc hl hf
    obtain ⟨ho, ha, hb⟩ := hok
    have hca : ∀ n ∈ a.nums, (n : Int) ∈ cs := fun n hn => hc n (by simp [Ex.nums, hn])
    have hcb : ∀ n ∈ b.nums, (n : Int) ∈ cs := fun n hn => hc n (by simp [Ex.nums, hn])
    unfold Ex.code at hl
    have hs : (Ex.op o a b).size = a.size + b.size + 1 := rfl
    have hv : (Ex.op o a b).val = opV o a.val b.val := rfl
    rw [hs, hv] at hf
    rw [hs]
    by_cases h56 : o = 5 ∨ o = 6
    · rw [if_pos h56] at hl
      have hla := hl.left
      have hr := hl.right
      rw [code_len] at hr
      have hj := hr.head
      have hlb := hr.tail
      rcases h56 with rfl | rfl
      · obtain ⟨m1, h1, hb1⟩ := ihb (p + a.size + 1) st m hb hcb (by simpa [code_len] using hlb) (by
          rw [show p + a.size + 1 + b.size = p + (a.size + b.size + 1) by omega]; exact hf)
        obtain ⟨m2, h2, ha2⟩ := iha p st (m1 + 1) ha hca hl.left (.and hj rfl hb1)
        exact ⟨m2, by omega, ha2⟩
      · obtain ⟨m2, h2, ha2⟩ := iha p st (m + 1) ha hca hl.left (.or (t := p + (a.size + b.size + 1)) hj rfl (by simp [code_len]; omega) hf)
        exact ⟨m2, by omega, ha2⟩
    · rw [if_neg h56] at hl
      have h3 : o = 1 ∨ o = 2 ∨ o = 3 := by omega
      have hla := hl.left.left
      have hlb := hl.left.right
      have hj := hl.right.head
      rw [code_len] at hlb
      simp only [List.length_append, code_len] at hj
      obtain ⟨m1, h1, hb1⟩ := ihb (p + a.size) (st ++ [a.val]) (m + 1) hb hcb (by simpa [code_len] using hlb) (by
        have hz : Fin code cs v (p + (a.size + b.size)) (st ++ [a.val, b.val]) (m + 1) := .bin hj rfl rfl h3 (by rw [Nat.add_assoc]; exact hf)
        rw [show p + a.size + b.size = p + (a.size + b.size) by omega]
        simpa using hz)
      obtain ⟨m2, h2, ha2⟩ := iha p st m1 ha hca hla hb1
      exact ⟨m2, by omega, ha2⟩
  | neg a ih =>
    intro p st m hok hc hl hf
    unfold Ex.code at hl
    have hs : (Ex.neg a).size = a.size + 1 := rfl
    have hv : (Ex.neg a).val = wrap (-a.val) := rfl
    rw [hs, hv] at hf
    rw [hs]
    have hj := hl.right.head
    rw [code_len] at hj
    obtain ⟨m1, h1, h2⟩ := ih p st (m + 1) hok (fun n hn => hc n (by simpa [Ex.nums] using hn)) hl.left (.una hj rfl rfl (by rw [Nat.add_assoc]; exact hf))
    exact ⟨m1, by omega, h2⟩
/-- The whole code of `return e`. -/
def codeOf (line : Int) (cs : List Int) (e : Ex) : List In := [⟨1, line, 0, 0⟩, ⟨22, 0, 0, 0⟩] ++ e.code cs 2 ++ [⟨25, 0, 0, 0⟩, ⟨22, 0, 0, 0⟩, ⟨25, 0, 0, 0⟩]
theorem fin_all (line : Int) (e : Ex) (hok : e.ok) (ho : e.ops ≤ 120) : ∃ m, m ≤ 1000 ∧ Fin (codeOf line (e.cons []) e) (e.cons []) e.val 0 [] m := by
  have hl : Lies (codeOf line (e.cons []) e) 0 (codeOf line (e.cons []) e) := fun i x h => by rw [Nat.zero_add]; exact h
  have h2 := hl.left.right
  have h3 := hl.right
  simp only [List.length_append, List.length_cons, List.length_nil, code_len] at h2 h3
  obtain ⟨m, h1, hf⟩ := fin_code (v := e.val) e 2 [] 1 hok (fun n hn => foldl_mem e.nums [] n hn) h2 (.ret (by have := h3.head; rw [show 0 + (0 + 1 + 1 + e.size) = 2 + e.size by omega] at this; exact this) rfl)
  have := size_ops e
  exact ⟨m + 1 + 1, by omega, .line (at_ := 0) (i := ⟨1, line, 0, 0⟩) rfl (.inl rfl) (.line (at_ := 1) (i := ⟨22, 0, 0, 0⟩) rfl (.inr rfl) hf)⟩
end Go.Proofs.YtaoippnipcchmaaGreatDoor.TP
