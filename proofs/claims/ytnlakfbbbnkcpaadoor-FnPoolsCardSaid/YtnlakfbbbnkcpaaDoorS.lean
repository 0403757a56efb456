/- Numerals, cuts, parts, payments' and chains' texts over lists of bytes: what the reference and the program both come to; plain Lean, no program; no condition of their own. -/
import Derived.Lib.ItoaNum
import Derived.Lib.SplitLaws
namespace Go.Proofs.YtnlakfbbbnkcpaaDoorS
open Go.Lib
set_option linter.unusedVariables false

/-! ### Numerals -/
def numL : Nat → List UInt8 → Option Nat
  | n, [] => some n
  | n, b :: l => if 48 ≤ b.toNat ∧ b.toNat ≤ 57 then numL (10 * n + (b.toNat - 48)) l else none
theorem numL_append : ∀ (l m : List UInt8) (n : Nat), numL n (l ++ m) = (numL n l).bind fun k => numL k m
  | [], m, n => rfl
  | b :: l, m, n => by
    rw [List.cons_append, numL, numL]
    by_cases h : 48 ≤ b.toNat ∧ b.toNat ≤ 57
    · rw [if_pos h, if_pos h, numL_append l m]
    · rw [if_neg h, if_neg h]; rfl
theorem dig_toNat (d : Nat) (h : d < 10) : (UInt8.ofNat (48 + d)).toNat = 48 + d := by
  rw [UInt8.toNat_ofNat']; exact Nat.mod_eq_of_lt (by omega)
theorem numL_dec (u : Nat) : numL 0 (decDigits u) = some u := by
  induction u using Nat.strongRecOn with
  | _ u ih =>
    rw [decDigits]
    by_cases h : u < 10
    · rw [dif_pos h, numL, dig_toNat u h, if_pos (by omega), numL]; congr 1; omega
    · rw [dif_neg h, numL_append, ih (u / 10) (by omega), Option.bind_some, numL, dig_toNat _ (by omega), if_pos (by omega), numL]; congr 1; omega
theorem dec_dig (u : Nat) : ∀ b ∈ decDigits u, 48 ≤ b.toNat ∧ b.toNat ≤ 57 := by
  induction u using Nat.strongRecOn with
  | _ u ih =>
    rw [decDigits]
    by_cases h : u < 10
    · rw [dif_pos h]
      intro b hb
      rw [List.mem_singleton.1 hb, dig_toNat u h]; omega
    · rw [dif_neg h]
      intro b hb
      rcases List.mem_append.1 hb with hb | hb
      · exact ih (u / 10) (by omega) b hb
      · rw [List.mem_singleton.1 hb, dig_toNat _ (by omega)]; omega
theorem dec_pos (u : Nat) : 1 ≤ (decDigits u).length := by
  rw [decDigits]; split <;> simp
theorem dec_len : ∀ (k u : Nat), u < 10 ^ (k + 1) → (decDigits u).length ≤ k + 1
  | 0, u, h => by rw [decDigits, dif_pos (by simpa using h)]; simp
  | k + 1, u, h => by
    rw [decDigits]
    by_cases h1 : u < 10
    · rw [dif_pos h1]; simp
    · rw [dif_neg h1, List.length_append]
      have := dec_len k (u / 10) (by rw [Nat.pow_succ] at h; omega)
      simp only [List.length_singleton]; omega
theorem itoa_nat (u : Nat) : itoa (u : Int) = decDigits u := by
  unfold itoa; rw [if_neg (by omega)]; rfl
/-- Number: what a text tells. -/
def numF (s : List UInt8) : Nat × Bool :=
  if s.length < 1 ∨ 6 < s.length then (0, false) else
    match numL 0 s with
    | none => (0, false)
    | some n => if decDigits n = s then (n, true) else (0, false)
theorem numF_dec (u : Nat) (h : u < 1000000) : numF (decDigits u) = (u, true) := by
  have h1 := dec_pos u
  have h2 := dec_len 5 u (by simpa using h)
  unfold numF
  rw [if_neg (by omega), numL_dec]
  simp only [if_pos]
theorem numF_some {s : List UInt8} {n : Nat} (h : numF s = (n, true)) : decDigits n = s ∧ n < 1000000 := by
  unfold numF at h
  split at h
  · simp at h
  · rename_i hl
    split at h
    · simp at h
    · rename_i m hm
      split at h
      · rename_i hs
        obtain rfl : m = n := by simpa using h
        refine ⟨hs, ?_⟩
        rw [← hs] at hl
        rcases Nat.lt_or_ge m 1000000 with h1 | h1
        · exact h1
        · exfalso
          have : 7 ≤ (decDigits m).length := by
            have e : ∀ (k u : Nat), 10 ^ k ≤ u → k + 1 ≤ (decDigits u).length := by
              intro k
              induction k with
              | zero => intro u _; exact dec_pos u
              | succ k ih =>
                intro u hu
                rw [decDigits, dif_neg (by have : 1 ≤ 10 ^ k := Nat.one_le_pow _ _ (by decide); rw [Nat.pow_succ] at hu; omega), List.length_append]
                have := ih (u / 10) (by rw [Nat.pow_succ] at hu; omega)
                simp only [List.length_singleton]; omega
            exact e 6 m (by simpa using h1)
          omega
      · simp at h
theorem numF_none {s : List UInt8} {n : Nat} (h : numF s = (n, false)) : n = 0 := by
  unfold numF at h
  repeat' split at h
  all_goals simp at h
  all_goals exact h.symm
theorem numF_nil : numF [] = (0, false) := by unfold numF; rw [if_pos (by simp)]

/-! ### Cuts -/
def cutL (c : UInt8) : List UInt8 → Option (List UInt8 × List UInt8)
  | [] => none
  | b :: l => if b = c then some ([], l) else (cutL c l).map fun p => (b :: p.1, p.2)
theorem cutL_none {c : UInt8} : ∀ {l : List UInt8}, cutL c l = none ↔ c ∉ l
  | [] => by simp [cutL]
  | b :: l => by
    rw [cutL]
    by_cases h : b = c
    · subst h; simp
    · rw [if_neg h, Option.map_eq_none_iff, cutL_none, List.mem_cons]
      constructor
      · intro h1 h2
        rcases h2 with h2 | h2
        · exact h h2.symm
        · exact h1 h2
      · exact fun h1 h2 => h1 (.inr h2)
theorem cutL_some {c : UInt8} : ∀ {l a r : List UInt8}, cutL c l = some (a, r) → l = a ++ c :: r ∧ c ∉ a
  | [], a, r, h => by simp [cutL] at h
  | b :: l, a, r, h => by
    rw [cutL] at h
    by_cases hb : b = c
    · rw [if_pos hb] at h
      simp only [Option.some.injEq, Prod.mk.injEq] at h
      obtain ⟨rfl, rfl⟩ := h
      subst hb
      simp
    · rw [if_neg hb] at h
      obtain ⟨⟨a', r'⟩, h1, h2⟩ := Option.map_eq_some_iff.1 h
      simp only [Prod.mk.injEq] at h2
      obtain ⟨rfl, rfl⟩ := h2
      obtain ⟨rfl, h4⟩ := cutL_some h1
      refine ⟨rfl, ?_⟩
      intro h5
      rcases List.mem_cons.1 h5 with h5 | h5
      · exact hb h5.symm
      · exact h4 h5
theorem cutL_at {c : UInt8} : ∀ {a r : List UInt8}, c ∉ a → cutL c (a ++ c :: r) = some (a, r)
  | [], r, _ => by simp [cutL]
  | b :: a, r, h => by
    rw [List.cons_append, cutL, if_neg (fun e => h (by simp [e])), cutL_at (fun h1 => h (by simp [h1]))]; rfl
theorem index_cons (b c : UInt8) (l : List UInt8) : index (b :: l) [c] = if b = c then 0 else if index l [c] = -1 then -1 else index l [c] + 1 := by
  rw [index]
  by_cases h : b = c
  · subst h; simp [List.isPrefixOf]
  · rw [if_neg h]
    have : ([c] : List UInt8).isPrefixOf (b :: l) = false := by simp [List.isPrefixOf, Ne.symm h]
    rw [this]; simp
theorem index_cutL (c : UInt8) : ∀ l : List UInt8, (cutL c l = none → index l [c] = -1) ∧ ∀ a r, cutL c l = some (a, r) → index l [c] = (a.length : Int)
  | [] => ⟨fun _ => by simp [index], fun a r h => by simp [cutL] at h⟩
  | b :: l => by
    obtain ⟨h1, h2⟩ := index_cutL c l
    rw [index_cons, cutL]
    by_cases h : b = c
    · rw [if_pos h, if_pos h]
      refine ⟨fun h => (by cases h), fun a r e => ?_⟩
      simp only [Option.some.injEq, Prod.mk.injEq] at e
      rw [← e.1]; rfl
    · rw [if_neg h, if_neg h]
      constructor
      · intro e
        rw [Option.map_eq_none_iff] at e
        rw [if_pos (h1 e)]
      · intro a r e
        obtain ⟨⟨a', r'⟩, e1, e2⟩ := Option.map_eq_some_iff.1 e
        simp only [Prod.mk.injEq] at e2
        rw [h2 _ _ e1, if_neg (by omega), ← e2.1]
        simp
theorem cut_one (c : UInt8) (l : List UInt8) : cut l [c] = match cutL c l with | none => (l, [], false) | some p => (p.1, p.2, true) := by
  obtain ⟨h1, h2⟩ := index_cutL c l
  unfold cut
  cases h : cutL c l with
  | none => rw [h1 h, if_neg (by omega)]
  | some p =>
    obtain ⟨a, r⟩ := p
    rw [h2 _ _ h, if_pos (by omega)]
    obtain ⟨rfl, _⟩ := cutL_some h
    simp

/-! ### Parts -/
def splitL (c : UInt8) : List UInt8 → List (List UInt8)
  | [] => [[]]
  | b :: l => if b = c then [] :: splitL c l else
    match splitL c l with
    | h :: t => (b :: h) :: t
    | [] => [[b]]
theorem splitL_ne (c : UInt8) (l : List UInt8) : splitL c l ≠ [] := by
  cases l with
  | nil => simp [splitL]
  | cons b l =>
    rw [splitL]
    by_cases h : b = c
    · rw [if_pos h]; simp
    · rw [if_neg h]; split <;> simp
theorem splitL_none {c : UInt8} : ∀ {l : List UInt8}, c ∉ l → splitL c l = [l]
  | [], _ => rfl
  | b :: l, h => by
    rw [splitL, if_neg (fun e => h (by simp [e])), splitL_none (fun h1 => h (by simp [h1]))]
theorem splitL_at {c : UInt8} : ∀ {a r : List UInt8}, c ∉ a → splitL c (a ++ c :: r) = a :: splitL c r
  | [], r, _ => by simp [splitL]
  | b :: a, r, h => by
    rw [List.cons_append, splitL, if_neg (fun e => h (by simp [e])), splitL_at (fun h1 => h (by simp [h1]))]
theorem split_cut (c : UInt8) (l : List UInt8) : splitL c l = match cutL c l with | none => [l] | some p => p.1 :: splitL c p.2 := by
  cases h : cutL c l with
  | none => exact splitL_none (cutL_none.1 h)
  | some p =>
    obtain ⟨a, r⟩ := p
    obtain ⟨rfl, h2⟩ := cutL_some h
    exact splitL_at h2
theorem splitK_one (c : UInt8) : ∀ (k : Nat) (l : List UInt8), l.count c = k → splitK [c] 0 k l = splitL c l
  | 0, l, h => (splitL_none (List.count_eq_zero.1 h)).symm
  | k + 1, l, h => by
    have hm : c ∈ l := List.count_pos_iff.1 (by omega)
    obtain ⟨h1, h2⟩ := index_cutL c l
    cases hc : cutL c l with
    | none => exact absurd hm (cutL_none.1 hc)
    | some p =>
      obtain ⟨a, r⟩ := p
      have hi := h2 _ _ hc
      obtain ⟨rfl, hn⟩ := cutL_some hc
      rw [splitK, hi, if_neg (by simp), splitL_at hn]
      have hk : r.count c = k := by
        rw [List.count_append, List.count_eq_zero.2 hn, List.count_cons_self] at h
        omega
      simp only [Int.toNat_natCast, Nat.add_zero, List.take_left', List.length_singleton]
      rw [show List.drop (a.length + 1) (a ++ c :: r) = r by simp, splitK_one c k r hk]
theorem split_one (c : UInt8) (l : List UInt8) : split l [c] = splitL c l := by
  unfold split
  rw [count_one]
  exact splitK_one c _ l rfl
theorem splitL_mem {c : UInt8} : ∀ {l : List UInt8} {p : List UInt8}, p ∈ splitL c l → c ∉ p
  | [], p, h => by
    rw [splitL, List.mem_singleton] at h
    subst h; simp
  | b :: l, p, h => by
    rw [splitL] at h
    by_cases hb : b = c
    · rw [if_pos hb] at h
      rcases List.mem_cons.1 h with h | h
      · subst h; simp
      · exact splitL_mem h
    · rw [if_neg hb] at h
      cases hs : splitL c l with
      | nil => exact absurd hs (splitL_ne c l)
      | cons x t =>
        rw [hs] at h
        rcases List.mem_cons.1 h with h | h
        · subst h
          intro h1
          rcases List.mem_cons.1 h1 with h1 | h1
          · exact hb h1.symm
          · exact splitL_mem (l := l) (by rw [hs]; simp) h1
        · exact splitL_mem (l := l) (by rw [hs]; simp [h])
def joinL (c : UInt8) : List (List UInt8) → List UInt8
  | [] => []
  | [a] => a
  | a :: b :: l => a ++ c :: joinL c (b :: l)
theorem joinL_cons (c : UInt8) (a : List UInt8) {l : List (List UInt8)} (h : l ≠ []) : joinL c (a :: l) = a ++ c :: joinL c l := by
  cases l with
  | nil => exact absurd rfl h
  | cons b l => rfl
theorem join_split (c : UInt8) : ∀ l : List UInt8, joinL c (splitL c l) = l
  | [] => rfl
  | b :: l => by
    have ih := join_split c l
    rw [splitL]
    by_cases hb : b = c
    · rw [if_pos hb, joinL_cons _ _ (splitL_ne c l), ih, hb]; rfl
    · rw [if_neg hb]
      cases hs : splitL c l with
      | nil => exact absurd hs (splitL_ne c l)
      | cons x t =>
        rw [hs] at ih
        cases t with
        | nil => simp only [joinL] at ih ⊢; rw [ih]
        | cons y t => simp only [joinL, List.cons_append] at ih ⊢; rw [ih]
theorem split_join {c : UInt8} : ∀ {l : List (List UInt8)}, l ≠ [] → (∀ p ∈ l, c ∉ p) → splitL c (joinL c l) = l
  | [], h, _ => absurd rfl h
  | [a], _, h => splitL_none (h a (by simp))
  | a :: b :: l, _, h => by
    rw [joinL, splitL_at (h a (by simp)), split_join (by simp) (fun p hp => h p (by simp at hp ⊢; exact .inr hp))]
theorem joinL_append (c : UInt8) (x : List UInt8) : ∀ {l : List (List UInt8)}, l ≠ [] → joinL c (l ++ [x]) = joinL c l ++ c :: x
  | [], h => absurd rfl h
  | [a], _ => rfl
  | a :: b :: l, _ => by
    rw [List.cons_append, joinL_cons _ _ (by simp), joinL_append c x (l := b :: l) (by simp), joinL]; simp

/-! ### Payments -/
abbrev Tx := Int × Int × Int × Int
def okT (x : Tx) : Prop := (0 ≤ x.1 ∧ x.1 ≤ 3) ∧ (0 ≤ x.2.1 ∧ x.2.1 ≤ 3) ∧ (0 ≤ x.2.2.1 ∧ x.2.2.1 ≤ 1000) ∧ (0 ≤ x.2.2.2 ∧ x.2.2.2 ≤ 99)
instance (x : Tx) : Decidable (okT x) := by unfold okT; infer_instance
def rawT (x : Tx) : List UInt8 := itoa x.1 ++ 62 :: (itoa x.2.1 ++ 58 :: (itoa x.2.2.1 ++ 35 :: itoa x.2.2.2))
def textT (x : Tx) : List UInt8 := if okT x then rawT x else []
theorem dec_not (u : Nat) (c : UInt8) (h : c.toNat < 48 ∨ 57 < c.toNat) : c ∉ decDigits u := fun hc => by
  have := dec_dig u c hc
  omega
theorem itoa_not (n : Int) (h0 : 0 ≤ n) (c : UInt8) (h : c.toNat < 48 ∨ 57 < c.toNat) : c ∉ itoa n := by
  obtain ⟨u, rfl⟩ := Int.eq_ofNat_of_zero_le h0
  rw [itoa_nat]; exact dec_not u c h
def num (s : List UInt8) : Int := ((numF s).1 : Nat)
theorem num_itoa (n : Int) (h0 : 0 ≤ n) (h : n < 1000000) : num (itoa n) = n := by
  obtain ⟨u, rfl⟩ := Int.eq_ofNat_of_zero_le h0
  unfold num
  rw [itoa_nat, numF_dec u (by omega)]
theorem num_nonneg (s : List UInt8) : 0 ≤ num s := by unfold num; omega
theorem num_lt (s : List UInt8) : num s < 1000000 := by
  unfold num
  cases h : numF s with
  | mk n b =>
    cases b with
    | false => rw [numF_none h]; decide
    | true => have := (numF_some h).2; simp only; omega
/-- The four words of a text. -/
def words (s : List UInt8) : Option (List UInt8 × List UInt8 × List UInt8 × List UInt8) :=
  (cutL 62 s).bind fun p => (cutL 58 p.2).bind fun q => (cutL 35 q.2).bind fun r => some (p.1, q.1, r.1, r.2)
def ofT (s : List UInt8) : Option Tx :=
  (words s).bind fun z => if okT (num z.1, num z.2.1, num z.2.2.1, num z.2.2.2) ∧ rawT (num z.1, num z.2.1, num z.2.2.1, num z.2.2.2) = s then some (num z.1, num z.2.1, num z.2.2.1, num z.2.2.2) else none
theorem words_raw (x : Tx) (h : okT x) : words (rawT x) = some (itoa x.1, itoa x.2.1, itoa x.2.2.1, itoa x.2.2.2) := by
  unfold okT at h
  unfold words rawT
  rw [cutL_at (itoa_not _ h.1.1 _ (by decide)), Option.bind_some, cutL_at (itoa_not _ h.2.1.1 _ (by decide)), Option.bind_some, cutL_at (itoa_not _ h.2.2.1.1 _ (by decide)), Option.bind_some]
theorem of_text (x : Tx) (h : okT x) : ofT (rawT x) = some x := by
  have h' := h
  unfold okT at h'
  unfold ofT
  rw [words_raw x h, Option.bind_some]
  simp only
  rw [num_itoa _ h'.1.1 (by omega), num_itoa _ h'.2.1.1 (by omega), num_itoa _ h'.2.2.1.1 (by omega), num_itoa _ h'.2.2.2.1 (by omega), if_pos ⟨h, rfl⟩]
theorem ofT_some {s : List UInt8} {x : Tx} (h : ofT s = some x) : okT x ∧ rawT x = s := by
  unfold ofT at h
  obtain ⟨z, _, h⟩ := Option.bind_eq_some_iff.1 h
  split at h
  · rename_i h1
    obtain rfl := Option.some.inj h
    exact h1
  · cases h
theorem ofT_iff (s : List UInt8) (x : Tx) : ofT s = some x ↔ okT x ∧ rawT x = s := by
  constructor
  · exact ofT_some
  · rintro ⟨h1, rfl⟩; exact of_text x h1
/-- A text is a payment's as soon as one of its readings writes it again. -/
theorem ofT_of_text {s : List UInt8} {x : Tx} (hs : s ≠ []) (h : textT x = s) : ofT s = some x := by
  unfold textT at h
  by_cases hx : okT x
  · rw [if_pos hx] at h; exact (ofT_iff _ _).2 ⟨hx, h⟩
  · rw [if_neg hx] at h; exact absurd h.symm hs
theorem raw_ne (x : Tx) : rawT x ≠ [] := by unfold rawT; simp
theorem text_ne {x : Tx} (h : okT x) : textT x ≠ [] := by unfold textT; rw [if_pos h]; exact raw_ne x
theorem raw_not (x : Tx) (h : okT x) (c : UInt8) (h1 : c.toNat < 48 ∨ 57 < c.toNat) (h2 : c ≠ 62 ∧ c ≠ 58 ∧ c ≠ 35) : c ∉ rawT x := by
  unfold okT at h
  unfold rawT
  simp only [List.mem_append, List.mem_cons, not_or]
  exact ⟨itoa_not _ h.1.1 _ h1, h2.1, itoa_not _ h.2.1.1 _ h1, h2.2.1, itoa_not _ h.2.2.1.1 _ h1, h2.2.2, itoa_not _ h.2.2.2.1 _ h1⟩

/-! ### Lists of payments -/
def okTs (l : List Tx) : Prop := ∀ x ∈ l, okT x
instance (l : List Tx) : Decidable (okTs l) := by unfold okTs; infer_instance
def textTs (l : List Tx) : List UInt8 := if okTs l then joinL 44 (l.map rawT) else []
def readAll : List (List UInt8) → Option (List Tx)
  | [] => some []
  | p :: ps => (ofT p).bind fun x => (readAll ps).map fun l => x :: l
def ofTs (s : List UInt8) : Option (List Tx) := if s = [] then some [] else readAll (splitL 44 s)
theorem readAll_raw : ∀ (l : List Tx), okTs l → readAll (l.map rawT) = some l
  | [], _ => rfl
  | x :: l, h => by
    rw [List.map_cons, readAll, of_text x (h x (by simp)), Option.bind_some, readAll_raw l (fun y hy => h y (by simp [hy]))]; rfl
theorem readAll_some : ∀ {ps : List (List UInt8)} {l : List Tx}, readAll ps = some l → okTs l ∧ l.map rawT = ps
  | [], l, h => by
    obtain rfl := Option.some.inj h
    exact ⟨fun _ h => (by cases h), rfl⟩
  | p :: ps, l, h => by
    obtain ⟨x, hx, h⟩ := Option.bind_eq_some_iff.1 h
    obtain ⟨l', h1, rfl⟩ := Option.map_eq_some_iff.1 h
    obtain ⟨h2, h3⟩ := readAll_some h1
    obtain ⟨h4, h5⟩ := ofT_some hx
    exact ⟨fun y hy => by rcases List.mem_cons.1 hy with rfl | hy; exact h4; exact h2 y hy, by rw [List.map_cons, h5, h3]⟩
theorem joinL_ne {c : UInt8} : ∀ {l : List (List UInt8)}, l ≠ [] → (∀ p ∈ l, p ≠ []) → joinL c l ≠ []
  | [], h, _ => absurd rfl h
  | [a], _, h => h a (by simp)
  | a :: b :: l, _, _ => by rw [joinL]; simp
theorem ofTs_text (l : List Tx) (h : okTs l) : ofTs (textTs l) = some l := by
  unfold textTs
  rw [if_pos h]
  unfold ofTs
  cases l with
  | nil => rfl
  | cons x l =>
    have hne : (x :: l).map rawT ≠ [] := by simp
    have h0 : joinL 44 ((x :: l).map rawT) ≠ [] := joinL_ne hne (fun p hp => by obtain ⟨y, _, rfl⟩ := List.mem_map.1 hp; exact raw_ne y)
    rw [if_neg h0, split_join hne (fun p hp => by
      obtain ⟨y, hy, rfl⟩ := List.mem_map.1 hp
      exact raw_not y (h y hy) 44 (by decide) (by decide))]
    exact readAll_raw _ h
theorem ofTs_some {s : List UInt8} {l : List Tx} (h : ofTs s = some l) : okTs l ∧ textTs l = s := by
  unfold ofTs at h
  by_cases hs : s = []
  · rw [if_pos hs] at h
    obtain rfl := Option.some.inj h
    exact ⟨fun _ h => (by cases h), (by rw [hs]; unfold textTs; rw [if_pos (show okTs [] from fun _ h => (by cases h))]; rfl)⟩
  · rw [if_neg hs] at h
    obtain ⟨h1, h2⟩ := readAll_some h
    refine ⟨h1, ?_⟩
    unfold textTs
    rw [if_pos h1, h2, join_split]
theorem textTs_not (l : List Tx) (c : UInt8) (h1 : c.toNat < 48 ∨ 57 < c.toNat) (h2 : c ≠ 62 ∧ c ≠ 58 ∧ c ≠ 35) (h3 : c ≠ 44) : c ∉ textTs l := by
  unfold textTs
  by_cases h : okTs l
  · rw [if_pos h]
    induction l with
    | nil => simp [joinL]
    | cons x l ih =>
      have hx := raw_not x (h x (by simp)) c h1 h2
      cases l with
      | nil => exact hx
      | cons y l =>
        rw [List.map_cons, joinL_cons _ _ (by simp)]
        simp only [List.mem_append, List.mem_cons, not_or]
        exact ⟨hx, h3, ih (fun z hz => h z (by simp at hz ⊢; exact .inr hz))⟩
  · rw [if_neg h]; simp

/-! ### Chains -/
def stepsL : Int → List (List UInt8) → Option (List (Int × List Tx))
  | _, [] => some []
  | last, p :: ps => (cutL 124 p).bind fun q => if (numF q.1).2 = true ∧ last < num q.1 ∧ num q.1 ≤ 60 then
      (ofTs q.2).bind fun l => if l.length ≤ 2 then (stepsL (num q.1) ps).map fun r => (num q.1, l) :: r else none
    else none
def stepsS (s : List UInt8) : Option (List (Int × List Tx)) :=
  if s = [] then some [] else
    match splitL 47 s with
    | [] => none
    | p :: ps => if p = [] ∧ ps.length ≤ 30 then stepsL 0 ps else none
def nameOk (s : List UInt8) : Bool := (stepsS s).isSome
def stepText (x : Int × List Tx) : List UInt8 := itoa x.1 ++ 124 :: textTs x.2
#print axioms ofTs_some
end Go.Proofs.YtnlakfbbbnkcpaaDoorS
