/- For all bytes and every place the program's GetText tells what the reference tells, and the bytes stay as they were; no condition. -/
import Derived.Test.YtjjhigboelhjgaaPFnExactGetTextx1
import Derived.Test.YtjjhigboelhjgaaPFnExactGetTextx2
namespace Go.Proofs.Ytjjhigboelhjgaa.Pure
open Go.RowKit Go.Proofs.Ytjjhigboelhjgaa.PFnExactGetText Go.Proofs.YtjjhigboelhjgaaW.PrintWords Go.Proofs.YtjjhigboelhjgaaW.PrintLast

section
set_option linter.unusedVariables false
set_option linter.unusedSimpArgs false
theorem up1 (n : Nat) (h : n < 4611686018427387904) : wrap64 ((n : Int) + 1) = ((n + 1 : Nat) : Int) := by
  unfold wrap64; omega
theorem up1' (a : Int) (h0 : -4611686018427387904 ≤ a) (h : a < 4611686018427387904) : wrap64 (a + 1) = a + 1 := by
  unfold wrap64; omega
theorem dn1 (a : Int) (h0 : -4611686018427387904 ≤ a) (h : a < 4611686018427387904) : wrap64 (a - 1) = a - 1 := by
  unfold wrap64; omega
theorem wrapI (a : Int) (h0 : -4611686018427387904 ≤ a) (h : a < 4611686018427387904) : wrap64 a = a := by
  unfold wrap64; omega
theorem rd_nat (xs : List Int) (n : Nat) (h : n < xs.length) : rd xs (n : Int) = xs[n] := by
  unfold rd; simp [List.getD_eq_getElem?_getD, h]
theorem ev_eq {α : Type} {g : Nat → Option α} {r s : α} (h : Ev g r) (e : r = s) : Ev g s := e ▸ h
theorem ev_ite {α : Type} {c : Prop} [Decidable c] {g f : Nat → Option α} {r s : α} (hg : c → Ev g r) (hf : ¬ c → Ev f s) : Ev (fun k => if c then g k else f k) (if c then r else s) := by
  by_cases h : c
  · simp only [if_pos h]; exact hg h
  · simp only [if_neg h]; exact hf h
theorem ev_pos {α : Type} {c : Prop} [Decidable c] {g f : Nat → Option α} {r : α} (h : c) (hg : Ev g r) : Ev (fun k => if c then g k else f k) r := by
  simp only [if_pos h]; exact hg
theorem ev_neg {α : Type} {c : Prop} [Decidable c] {g f : Nat → Option α} {r : α} (h : ¬ c) (hf : Ev f r) : Ev (fun k => if c then g k else f k) r := by
  simp only [if_neg h]; exact hf
theorem ev_some {α : Type} {r s : α} (e : r = s) : Ev (fun _ => some r) s := e ▸ Ev.now r
theorem ev_const {α β : Type} {o : Option α} {f : Nat → α → Option β} {a : α} {r : β} (h : o = some a) (k : Ev (fun n => f n a) r) : Ev (fun n => o.bind (f n)) r := by
  subst h; exact k
theorem ev_up {α : Type} {g : Nat → Option α} {r : α} (h : Ev (fun k => g (k + 1)) r) : Ev g r := by
  obtain ⟨K, hK⟩ := h
  refine ⟨K + 1, fun k hk => ?_⟩
  obtain ⟨m, rfl⟩ : ∃ m, k = m + 1 := ⟨k - 1, by omega⟩
  exact hK m (by omega)
theorem wNat (c : Nat) (h : c < 4611686018427387904) : wrap64 (c : Int) = (c : Int) := by unfold wrap64; omega
theorem wAdd (a i : Nat) (h : a + i < 4611686018427387904) : wrap64 ((a : Int) + (i : Int)) = ((a + i : Nat) : Int) := by unfold wrap64; omega
theorem wAdd1 (a i : Nat) (h : a + i < 4611686018427387904) : wrap64 (((a + i : Nat) : Int) + 1) = (a : Int) + ((i + 1 : Nat) : Int) := by unfold wrap64; omega
theorem wSub (a i : Nat) (h : a < 4611686018427387904) (h' : i < 4611686018427387904) : wrap64 ((a : Int) - (i : Int)) = (a : Int) - (i : Int) := by unfold wrap64; omega
theorem tmod128 (c : Nat) : Int.tmod (c : Int) 128 = ((c % 128 : Nat) : Int) := by rw [Int.tmod_eq_emod_of_nonneg (by omega)]; omega

theorem eqByteS_loop (a b : List Int) (hl : a.length ≤ 281474976710656) (hab : a.length = b.length) : ∀ (d n : Nat), a.length - n = d → n ≤ a.length → Ev (fun k => laws_eqByteS.l0 k a b (n : Int)) (decide (a.drop n = b.drop n)) := by
  intro d
  induction d with
  | zero =>
    intro n hd hn
    obtain rfl : n = a.length := by omega
    refine Ev.step (f := fun _ => some true) (fun k => by simp only [laws_eqByteS.l0]; rw [if_neg (by omega)]) (ev_some ?_)
    rw [List.drop_of_length_le (by omega), List.drop_of_length_le (by omega)]; rfl
  | succ d ih =>
    intro n hd hn
    have h1 : n < a.length := by omega
    have h2 : n < b.length := by omega
    have e : (a.drop n = b.drop n) ↔ (a[n] = b[n] ∧ a.drop (n + 1) = b.drop (n + 1)) := by
      rw [List.drop_eq_getElem_cons h1, List.drop_eq_getElem_cons h2, List.cons.injEq]
    by_cases hc : a[n] = b[n]
    · refine Ev.step (f := fun k => laws_eqByteS.l0 k a b ((n + 1 : Nat) : Int)) (fun k => ?_) (ev_eq (ih (n + 1) (by omega) (by omega)) ?_)
      · simp only [laws_eqByteS.l0]
        rw [if_pos (by omega), if_pos (by omega), if_pos (by omega), rd_nat a n h1, rd_nat b n h2, if_pos hc, up1 n (by omega)]
      · exact decide_eq_decide.mpr (by rw [e]; simp [hc])
    · refine Ev.step (f := fun _ => some false) (fun k => ?_) (ev_some ?_)
      · simp only [laws_eqByteS.l0]
        rw [if_pos (by omega), if_pos (by omega), if_pos (by omega), rd_nat a n h1, rd_nat b n h2, if_neg hc]
      · exact (decide_eq_false (by rw [e]; exact fun h => hc h.1)).symm
theorem eqByteS_ev (a b : List Int) (hl : a.length ≤ 281474976710656) : Ev (fun k => laws_eqByteS.f k a b) (decide (a = b)) := by
  unfold laws_eqByteS.f
  by_cases h : a.length = b.length
  · exact ev_pos (by omega) (eqByteS_loop a b hl h a.length 0 (by omega) (by omega))
  · exact ev_neg (by omega) (ev_some (decide_eq_false (fun e => h (by rw [e]))).symm)

theorem toByteS_loop (l : List Int) (hl : l.length ≤ 281474976710656) : ∀ (d n : Nat) (x : List Int), l.length - n = d → n ≤ l.length → x.length = l.length → x.take n = l.take n → Ev (fun k => laws_toByteS.l0 k l x (n : Int)) l := by
  intro d
  induction d with
  | zero =>
    intro n x hd hn hx ht
    obtain rfl : n = l.length := by omega
    refine Ev.step (f := fun _ => some x) (fun k => by simp only [laws_toByteS.l0]; rw [if_neg (by omega)]) (ev_some ?_)
    rw [List.take_of_length_le (by omega), List.take_of_length_le (by omega)] at ht
    exact ht
  | succ d ih =>
    intro n x hd hn hx ht
    have h1 : n < l.length := by omega
    refine Ev.step (f := fun k => laws_toByteS.l0 k l (x.set n l[n]) ((n + 1 : Nat) : Int)) (fun k => ?_) (ih (n + 1) (x.set n l[n]) (by omega) (by omega) (by simpa using hx) ?_)
    · simp only [laws_toByteS.l0]
      rw [if_pos (by omega), if_pos (by omega), if_pos (by omega), up1 n (by omega), rd_nat l n h1]
      rfl
    · rw [List.take_succ_eq_append_getElem (by simpa [hx] using h1), List.take_succ_eq_append_getElem h1]
      simp [List.take_set_of_le, ht]
theorem toByteS_ev (l : List Int) (hl : l.length ≤ 281474976710656) : Ev (fun k => laws_toByteS.f k l) l := by
  unfold laws_toByteS.f
  refine ev_pos (by omega) (ev_pos (by simpa using hl) ?_)
  exact toByteS_loop l hl l.length 0 _ (by omega) (by omega) (by simp) (by simp)

/-- Seven bits a byte, the low ones first. -/
def putBytes (n : Nat) : List Int := if n < 128 then [(n : Int)] else ((n % 128 + 128 : Nat) : Int) :: putBytes (n / 128)
termination_by n
decreasing_by omega
theorem putBytes_len (n : Nat) : 1 ≤ (putBytes n).length := by
  rw [putBytes]; split <;> simp
theorem putBytes_len_le : ∀ (m n : Nat), 1 ≤ m → n < 128 ^ m → (putBytes n).length ≤ m := by
  intro m
  induction m with
  | zero => intro n h _; omega
  | succ m ih =>
    intro n _ h
    rw [putBytes]
    split
    · simp
    · rename_i hn
      rw [List.length_cons]
      rcases Nat.eq_zero_or_pos m with rfl | hm
      · omega
      · have := ih (n / 128) hm (by rw [Nat.pow_succ] at h; omega)
        omega
def putIs (n : Int) : List Int := if 0 ≤ n ∧ n ≤ 2147483647 then putBytes n.toNat else []
theorem putIs_len (n : Int) : (putIs n).length ≤ 5 := by
  unfold putIs
  split
  · exact putBytes_len_le 5 _ (by omega) (by omega)
  · simp
theorem put_step (n : Nat) (h : n < 4611686018427387904) (h2 : 128 ≤ n) : wrap64 (Int.tdiv (n : Int) 128) = ((n / 128 : Nat) : Int) ∧ (wrap64 ((Int.tmod (n : Int) 128) + 128)) % 256 = ((n % 128 + 128 : Nat) : Int) := by
  have e1 : Int.tdiv (n : Int) 128 = ((n / 128 : Nat) : Int) := by rw [Int.tdiv_eq_ediv_of_nonneg (by omega)]; omega
  have e2 : Int.tmod (n : Int) 128 = ((n % 128 : Nat) : Int) := by rw [Int.tmod_eq_emod_of_nonneg (by omega)]; omega
  rw [e1, e2]; unfold wrap64; omega
theorem five (i : Nat) (h : i < 5) : i = 0 ∨ i = 1 ∨ i = 2 ∨ i = 3 ∨ i = 4 := by omega
theorem shl7 (x i : Nat) (hx : x < 128) (hi : i < 5) : shl .i64 (x : Int) (wrap64 (7 * (i : Int))) = ((x * 128 ^ i : Nat) : Int) := by
  have hs : ∀ (m : Nat) (y : Int), y = (m : Int) → m ≤ 28 → shl .i64 (x : Int) y = (x : Int) * 2 ^ m := by
    intro m y hy hm
    subst hy
    unfold shl
    rw [show min ((m : Int)).toNat IntKind.i64.bits = m by simp [IntKind.bits]; omega]
    have h2 : (2 : Int) ^ m ≤ 2 ^ 28 := by
      have : (2 : Nat) ^ m ≤ 2 ^ 28 := Nat.pow_le_pow_right (by decide) hm
      exact_mod_cast this
    have h3 : (0 : Int) < 2 ^ m := Int.pow_pos (by decide)
    have h4 : (x : Int) * 2 ^ m ≤ 127 * 2 ^ 28 := Int.mul_le_mul (by omega) h2 (by omega) (by omega)
    have h5 : 0 ≤ (x : Int) * 2 ^ m := Int.mul_nonneg (by omega) (by omega)
    rw [IntKind.wrap_i64]
    omega
  rcases five i hi with rfl | rfl | rfl | rfl | rfl
  · rw [hs 0 _ (by unfold wrap64; omega) (by omega)]; simp
  · rw [hs 7 _ (by unfold wrap64; omega) (by omega)]; simp
  · rw [hs 14 _ (by unfold wrap64; omega) (by omega)]; simp
  · rw [hs 21 _ (by unfold wrap64; omega) (by omega)]; simp
  · rw [hs 28 _ (by unfold wrap64; omega) (by omega)]; simp
theorem or7 (n x i : Nat) (hn : n < 128 ^ i) (hx : x < 128) (hi : i < 5) : Go.bits .or .i64 (n : Int) ((x * 128 ^ i : Nat) : Int) = ((n + x * 128 ^ i : Nat) : Int) := by
  have hw : ∀ z : Int, 0 ≤ z → z < 2 ^ 62 → IntKind.i64.wrap z = z := by
    intro z h0 h1
    rw [IntKind.wrap_i64]; omega
  have key : ∀ m : Nat, m ≤ 28 → 128 ^ i = 2 ^ m → n ||| x * 128 ^ i = n + x * 128 ^ i := by
    intro m _ hm
    rw [hm] at hn ⊢
    rw [Nat.or_comm, Nat.mul_comm, ← Nat.two_pow_add_eq_or_of_lt hn, Nat.add_comm]
  have hb : x * 128 ^ i < 2 ^ 62 ∧ n < 2 ^ 62 := by
    rcases five i hi with rfl | rfl | rfl | rfl | rfl <;> simp at hn ⊢ <;> omega
  rw [(bits_nat .i64 62 (by decide) hw n (x * 128 ^ i) hb.2 hb.1).2]
  congr 1
  rcases five i hi with rfl | rfl | rfl | rfl | rfl
  · exact key 0 (by omega) (by decide)
  · exact key 7 (by omega) (by decide)
  · exact key 14 (by omega) (by decide)
  · exact key 21 (by omega) (by decide)
  · exact key 28 (by omega) (by decide)
theorem next7 (n x i : Nat) (hn : n < 128 ^ i) (hx : x < 128) : n + x * 128 ^ i < 128 ^ (i + 1) := by
  rw [Nat.pow_succ]
  have : x * 128 ^ i ≤ 127 * 128 ^ i := Nat.mul_le_mul_right _ (by omega)
  omega
theorem putBytes_len_eq : ∀ (m n : Nat), n < 128 ^ (m + 1) → (m = 0 ∨ 128 ^ m ≤ n) → (putBytes n).length = m + 1 := by
  intro m
  induction m with
  | zero => intro n h _; rw [putBytes, if_pos (by omega)]; rfl
  | succ m ih =>
    intro n h h2
    have h3 : 128 ^ (m + 1) ≤ n := by rcases h2 with h2 | h2; · omega
                                      · exact h2
    have h4 : 128 ≤ n := by
      have : 128 ^ 1 ≤ 128 ^ (m + 1) := Nat.pow_le_pow_right (by decide) (by omega)
      omega
    rw [putBytes, if_neg (by omega), List.length_cons, ih (n / 128) (by rw [Nat.pow_succ] at h; omega) (by
      rcases Nat.eq_zero_or_pos m with rfl | hm
      · exact .inl rfl
      · right; rw [Nat.pow_succ] at h3; omega)]
theorem put_len (n c i : Nat) (hn : n < 128 ^ i) (hc : c < 128) (hi : i < 5) : ((putIs ((n + c * 128 ^ i : Nat) : Int)).length = i + 1) ↔ ¬((0 < i ∧ c = 0) ∨ 2147483647 < n + c * 128 ^ i) := by
  have hx := next7 n c i hn hc
  unfold putIs
  by_cases h : n + c * 128 ^ i ≤ 2147483647
  · rw [if_pos ⟨by omega, by omega⟩, Int.toNat_natCast]
    by_cases h0 : 0 < i ∧ c = 0
    · obtain ⟨h1, rfl⟩ := h0
      have := putBytes_len_le i n h1 hn
      simp only [Nat.zero_mul, Nat.add_zero]
      constructor
      · intro e; omega
      · intro e; exact absurd (.inl ⟨h1, trivial⟩) e
    · have e := putBytes_len_eq i _ hx (by
        rcases Nat.eq_zero_or_pos i with hi0 | hi0
        · exact .inl hi0
        · right
          have : 1 ≤ c := by omega
          have : 1 * 128 ^ i ≤ c * 128 ^ i := Nat.mul_le_mul_right _ this
          omega)
      exact ⟨fun _ z => z.elim h0 (fun z => by omega), fun _ => e⟩
  · rw [if_neg (by omega)]
    constructor
    · intro e; simp at e
    · intro e; exact absurd (.inr (by omega)) e
def bytesOk (b : List Int) : Prop := ∀ x ∈ b, 0 ≤ x ∧ x ≤ 255
/-- The number told by what stands from its byte i on, n being told so far; d bytes at the most. -/
def getFrom : Nat → List Int → Nat → Nat → Option (Nat × Nat)
  | 0, _, _, _ => none
  | _ + 1, [], _, _ => none
  | d + 1, c :: rest, i, n => if c < 128 then (if (0 < i ∧ c.toNat = 0) ∨ 2147483647 < n + c.toNat * 128 ^ i then none else some (n + c.toNat * 128 ^ i, i + 1)) else getFrom d rest (i + 1) (n + c.toNat % 128 * 128 ^ i)
def getRes (a : Int) : Option (Nat × Nat) → Int × Int × Bool
  | none => (0, 0, false)
  | some (v, c) => ((v : Int), a + (c : Int), true)
def getIs (b : List Int) (a : Int) : Int × Int × Bool := if 0 ≤ a ∧ a < b.length then getRes a (getFrom 5 (b.drop a.toNat) 0 0) else (0, 0, false)
theorem byte_at (b : List Int) (hb : bytesOk b) (a i : Nat) (h : a + i < b.length) : ∃ c : Nat, c ≤ 255 ∧ b[a + i] = (c : Int) ∧ b.drop (a + i) = (c : Int) :: b.drop (a + (i + 1)) := by
  have h1 := hb b[a + i] (List.getElem_mem h)
  refine ⟨b[a + i].toNat, by omega, by omega, ?_⟩
  rw [List.drop_eq_getElem_cons h]
  congr 1
  omega
theorem spec_GetNum_loop (b : List Int) (hb : bytesOk b) (hl : b.length ≤ 281474976710656) (a : Nat) (ha : a ≤ b.length) : ∀ (d i n : Nat), i + d = 5 → n < 128 ^ i → a + i ≤ b.length → Ev (fun k => spec_GetNum.l0 k b (a : Int) (n : Int) (i : Int)) (getRes a (getFrom d (b.drop (a + i)) i n)) := by
  intro d
  induction d with
  | zero =>
    intro i n hi hn hle
    exact Ev.step (f := fun _ => some (0, 0, false)) (fun k => by simp only [spec_GetNum.l0]; rw [if_neg (by omega)]) (ev_some rfl)
  | succ d ih =>
    intro i n hi hn hle
    have hi5 : i < 5 := by omega
    have h62 : b.length < 4611686018427387904 := by omega
    have i62 : i < 4611686018427387904 := by omega
    have a62 : a + i < 4611686018427387904 := by omega
    refine Ev.step (f := fun k => spec_GetNum.j1 k b (a : Int) (n : Int) (i : Int) (decide ((a : Int) ≥ (b.length : Int) - i))) (fun k => by simp only [spec_GetNum.l0]; rw [if_pos (by omega), if_neg (by omega), wSub _ _ h62 i62]) ?_
    by_cases hlt : a + i < b.length
    · obtain ⟨c, hc, hcb, hdr⟩ := byte_at b hb a i hlt
      have c62 : c < 4611686018427387904 := by omega
      have cm : c % 128 < 128 := by omega
      have rest := ih (i + 1) (n + c % 128 * 128 ^ i) (by omega) (next7 _ _ _ hn (by omega)) (by omega)
      have eF : (decide ((a : Int) ≥ (b.length : Int) - i)) = false := decide_eq_false (by omega)
      rw [eF, hdr]
      have body : ∀ k, spec_GetNum.j1 (k + 1) b (a : Int) (n : Int) (i : Int) false = if (c : Int) < 128 then (if (i : Int) > 0 then (if (c : Int) = 0 then some (0, 0, false) else (if ((n + c % 128 * 128 ^ i : Nat) : Int) > 2147483647 then some (0, 0, false) else some (((n + c % 128 * 128 ^ i : Nat) : Int), (a : Int) + ((i + 1 : Nat) : Int), true))) else (if ((n + c % 128 * 128 ^ i : Nat) : Int) > 2147483647 then some (0, 0, false) else some (((n + c % 128 * 128 ^ i : Nat) : Int), (a : Int) + ((i + 1 : Nat) : Int), true))) else spec_GetNum.l0 k b (a : Int) ((n + c % 128 * 128 ^ i : Nat) : Int) ((i + 1 : Nat) : Int) := by
        intro k
        simp only [spec_GetNum.j1]
        rw [wAdd a i a62, if_neg (by decide), if_pos (by omega), if_pos (by omega), if_pos (by rw [wrapI _ (by omega) (by omega)]; omega), rd_nat b (a + i) hlt, hcb, wNat c c62, tmod128, shl7 _ _ cm hi5, or7 n (c % 128) i hn cm hi5, wAdd1 a i a62, up1 i i62]
      unfold getFrom
      refine Ev.step body ?_
      by_cases h1 : (c : Int) < 128
      · refine ev_pos h1 ?_
        rw [if_pos h1, Int.toNat_natCast]
        have ec : c % 128 = c := by omega
        rw [ec]
        by_cases h2 : (i : Int) > 0
        · refine ev_pos h2 ?_
          by_cases h3 : (c : Int) = 0
          · refine ev_pos h3 (ev_some ?_)
            rw [if_pos (.inl ⟨by omega, by omega⟩)]; rfl
          · refine ev_neg h3 ?_
            by_cases h4 : ((n + c * 128 ^ i : Nat) : Int) > 2147483647
            · refine ev_pos h4 (ev_some ?_)
              rw [if_pos (.inr (by omega))]; rfl
            · refine ev_neg h4 (ev_some ?_)
              rw [if_neg (by omega)]; rfl
        · refine ev_neg h2 ?_
          by_cases h4 : ((n + c * 128 ^ i : Nat) : Int) > 2147483647
          · refine ev_pos h4 (ev_some ?_)
            rw [if_pos (.inr (by omega))]; rfl
          · refine ev_neg h4 (ev_some ?_)
            rw [if_neg (by omega)]; rfl
      · refine ev_neg h1 ?_
        rw [if_neg h1, Int.toNat_natCast]
        exact rest
    · have eT : (decide ((a : Int) ≥ (b.length : Int) - i)) = true := decide_eq_true (by omega)
      rw [eT, List.drop_of_length_le (by omega)]
      exact Ev.step (f := fun _ => some (0, 0, false)) (fun k => by simp only [spec_GetNum.j1]; rw [if_pos trivial]) (ev_some rfl)
theorem spec_GetNum_ev (b : List Int) (hb : bytesOk b) (hl : b.length ≤ 281474976710656) (a : Int) : Ev (fun k => spec_GetNum.f k b a) (getIs b a) := by
  unfold spec_GetNum.f getIs
  by_cases h : 0 ≤ a ∧ a < b.length
  · rw [if_pos h]
    obtain ⟨m, rfl⟩ := Int.eq_ofNat_of_zero_le h.1
    have := spec_GetNum_loop b hb hl m (by omega) 5 0 0 rfl (by decide) (by omega)
    simpa using this
  · rw [if_neg h]
    by_cases h0 : a < 0
    · refine Ev.step (f := fun k => spec_GetNum.j1 k b a 0 0 true) (fun k => by simp only [spec_GetNum.l0]; rw [if_pos (by omega), if_pos h0]) ?_
      exact Ev.step (f := fun _ => some (0, 0, false)) (fun k => by simp only [spec_GetNum.j1]; rw [if_pos trivial]) (ev_some rfl)
    · have e0 : wrap64 ((b.length : Int) - 0) = (b.length : Int) := by rw [wrapI _ (by omega) (by omega)]; omega
      refine Ev.step (f := fun k => spec_GetNum.j1 k b a 0 0 true) (fun k => by simp only [spec_GetNum.l0]; rw [if_pos (by omega), if_neg h0, e0, show decide (a ≥ (b.length : Int)) = true from decide_eq_true (by omega)]) ?_
      exact Ev.step (f := fun _ => some (0, 0, false)) (fun k => by simp only [spec_GetNum.j1]; rw [if_pos trivial]) (ev_some rfl)

theorem getFrom_bound : ∀ (d : Nat) (b : List Int) (i n v c : Nat), getFrom d b i n = some (v, c) → i < c ∧ c ≤ i + b.length ∧ v ≤ 2147483647 := by
  intro d
  induction d with
  | zero => intro b i n v c h; simp [getFrom] at h
  | succ d ih =>
    intro b i n v c h
    cases b with
    | nil => simp [getFrom] at h
    | cons x rest =>
      simp only [getFrom] at h
      by_cases h1 : x < 128
      · rw [if_pos h1] at h
        by_cases h2 : (0 < i ∧ x.toNat = 0) ∨ 2147483647 < n + x.toNat * 128 ^ i
        · rw [if_pos h2] at h; cases h
        · rw [if_neg h2] at h
          obtain ⟨rfl, rfl⟩ := Prod.mk.inj (Option.some.inj h)
          simp only [List.length_cons]
          omega
      · rw [if_neg h1] at h
        have := ih _ _ _ _ _ h
        simp only [List.length_cons]
        omega
theorem getIs_bound (b : List Int) (a : Int) (h : (getIs b a).2.2 = true) : 0 ≤ (getIs b a).1 ∧ (getIs b a).1 ≤ 2147483647 ∧ a < (getIs b a).2.1 ∧ 0 ≤ a ∧ (getIs b a).2.1 ≤ b.length := by
  unfold getIs at h ⊢
  by_cases ha : 0 ≤ a ∧ a < b.length
  · rw [if_pos ha] at h ⊢
    cases e : getFrom 5 (b.drop a.toNat) 0 0 with
    | none => rw [e] at h; simp [getRes] at h
    | some p =>
      obtain ⟨v, c⟩ := p
      have := getFrom_bound _ _ _ _ _ _ e
      rw [List.length_drop] at this
      simp only [getRes]
      omega
  · rw [if_neg ha] at h; simp at h
def textIs (b : List Int) (a : Int) : ByteArray × Int × Bool :=
  if (getIs b a).2.2 = true ∧ (getIs b a).1 ≤ b.length - (getIs b a).2.1 then (strOfNums ((b.take ((getIs b a).2.1 + (getIs b a).1).toNat).drop (getIs b a).2.1.toNat), (getIs b a).2.1 + (getIs b a).1, true) else ((⟨#[]⟩ : ByteArray), 0, false)
theorem spec_GetText_ev (b : List Int) (hb : bytesOk b) (hl : b.length ≤ 281474976710656) (a : Int) : Ev (fun k => spec_GetText.f k b a) (textIs b a) := by
  unfold spec_GetText.f
  refine Ev.bind (spec_GetNum_ev b hb hl a) ?_
  unfold textIs
  by_cases h : (getIs b a).2.2 = true
  · have hB := getIs_bound b a h
    generalize getIs b a = g at h hB ⊢
    rw [wrapI _ (by omega) (by omega), wrapI _ (by omega) (by omega)]
    refine ev_pos h ?_
    by_cases h2 : g.1 > (b.length : Int) - g.2.1
    · refine ev_pos h2 (ev_some ?_)
      rw [if_neg (by omega)]
    · refine ev_neg h2 (ev_pos (by omega) (ev_pos (by omega) (ev_pos (by omega) (ev_some ?_))))
      rw [if_pos ⟨h, by omega⟩]
  · refine ev_neg h (ev_some ?_)
    rw [if_neg (fun z => h z.1)]

theorem impl_within_val (a b c : Int) : impl_within.f a b c = some (decide (b ≤ a ∧ a ≤ c)) := by
  unfold impl_within.f
  by_cases h : a ≥ b <;> by_cases h2 : a ≤ c <;> simp [h, h2] <;> omega

theorem impl_PutNum_loop : ∀ (d n : Nat) (x : List Int), n ≤ d → n < 4611686018427387904 → x.length + (putBytes n).length ≤ 1000 → Ev (fun k => impl_PutNum.l0 k (n : Int) x) (x ++ putBytes n) := by
  intro d
  induction d with
  | zero =>
    intro n x hn hb hx
    obtain rfl : n = 0 := by omega
    refine Ev.step (f := fun _ => some (x ++ [0])) (fun k => by simp only [impl_PutNum.l0]; rw [if_neg (by omega), if_pos (by omega)]; rfl) (ev_some (by rw [putBytes]; rfl))
  | succ d ih =>
    intro n x hn hb hx
    by_cases h : n < 128
    · refine Ev.step (f := fun _ => some (x ++ [(n : Int)])) (fun k => by simp only [impl_PutNum.l0]; rw [if_neg (by omega), if_pos (by omega), show (n : Int) % 256 = n by omega]) (ev_some (by rw [putBytes, if_pos h]))
    · obtain ⟨e1, e2⟩ := put_step n hb (by omega)
      rw [putBytes, if_neg h, List.length_cons] at hx
      refine Ev.step (f := fun k => impl_PutNum.l0 k ((n / 128 : Nat) : Int) (x ++ [((n % 128 + 128 : Nat) : Int)])) (fun k => by simp only [impl_PutNum.l0]; rw [if_pos (by omega), if_pos (by omega), e1, e2]) (ev_eq (ih (n / 128) _ (by omega) (by omega) (by simp; omega)) (by rw [putBytes.eq_def n, if_neg h]; simp))
theorem impl_PutNum_ev (n : Int) : Ev (fun k => impl_PutNum.f k n) (putIs n) := by
  unfold impl_PutNum.f
  simp only [impl_within_val, Option.bind_some]
  have hl := putIs_len n
  by_cases h : 0 ≤ n ∧ n ≤ 2147483647
  · refine ev_pos (by simpa using h) ?_
    unfold putIs at hl ⊢
    rw [if_pos h] at hl ⊢
    obtain ⟨m, rfl⟩ := Int.eq_ofNat_of_zero_le h.1
    have h5 : (putBytes m).length ≤ 5 := by simpa using hl
    have := impl_PutNum_loop m m [] (Nat.le_refl _) (by omega) (by rw [List.length_nil]; omega)
    simpa using this
  · refine ev_neg (by simpa using h) (ev_some ?_)
    unfold putIs; rw [if_neg h]

theorem impl_GetNum_loop (b : List Int) (hb : bytesOk b) (hl : b.length ≤ 281474976710656) (a : Nat) (ha : a ≤ b.length) : ∀ (d i n : Nat), i + d = 5 → n < 128 ^ i → a + i ≤ b.length → Ev (fun k => impl_GetNum.l0 k b (a : Int) (n : Int) (i : Int)) (getRes a (getFrom d (b.drop (a + i)) i n)) := by
  intro d
  induction d with
  | zero =>
    intro i n hi hn hle
    refine Ev.step (f := fun k => impl_GetNum.j1 k b (a : Int) (n : Int) (i : Int) false) (fun k => by simp only [impl_GetNum.l0]; rw [if_neg (by omega)]) ?_
    exact Ev.step (f := fun _ => some (0, 0, false)) (fun k => by simp only [impl_GetNum.j1]; rw [if_neg (by decide)]) (ev_some rfl)
  | succ d ih =>
    intro i n hi hn hle
    have hi5 : i < 5 := by omega
    have h62 : b.length < 4611686018427387904 := by omega
    have i62 : i < 4611686018427387904 := by omega
    have a62 : a + i < 4611686018427387904 := by omega
    refine Ev.step (f := fun k => impl_GetNum.j1 k b (a : Int) (n : Int) (i : Int) (decide (((a + i : Nat) : Int) < (b.length : Int)))) (fun k => by simp only [impl_GetNum.l0]; rw [if_pos (by omega), wAdd a i a62]) ?_
    by_cases hlt : a + i < b.length
    · obtain ⟨c, hc, hcb, hdr⟩ := byte_at b hb a i hlt
      have c62 : c < 4611686018427387904 := by omega
      have cm : c % 128 < 128 := by omega
      have hx := next7 n (c % 128) i hn cm
      have n62 : n + c % 128 * 128 ^ i < 4611686018427387904 := Nat.lt_of_lt_of_le hx (Nat.le_trans (Nat.pow_le_pow_right (by decide) (show i + 1 ≤ 5 by omega)) (by decide))
      have rest := ih (i + 1) (n + c % 128 * 128 ^ i) (by omega) hx (by omega)
      have eT : (decide (((a + i : Nat) : Int) < (b.length : Int))) = true := decide_eq_true (by omega)
      rw [eT, hdr]
      have body : ∀ k, impl_GetNum.j1 (k + 1) b (a : Int) (n : Int) (i : Int) true = if (c : Int) < 128 then ((impl_PutNum.f k ((n + c % 128 * 128 ^ i : Nat) : Int)).bind fun t => if (t.length : Int) = ((i + 1 : Nat) : Int) then some (((n + c % 128 * 128 ^ i : Nat) : Int), (a : Int) + ((i + 1 : Nat) : Int), true) else some (0, 0, false)) else impl_GetNum.l0 k b (a : Int) ((n + c % 128 * 128 ^ i : Nat) : Int) ((i + 1 : Nat) : Int) := by
        intro k
        simp only [impl_GetNum.j1]
        rw [wAdd a i a62, if_pos trivial, if_pos (by omega), if_pos (by omega), if_pos (by rw [wrapI _ (by omega) (by omega)]; omega), rd_nat b (a + i) hlt, hcb, wNat c c62, tmod128, shl7 _ _ cm hi5, wAdd n _ n62, wAdd1 a i a62, up1 i i62]
      unfold getFrom
      refine Ev.step body ?_
      by_cases h1 : (c : Int) < 128
      · refine ev_pos h1 ?_
        rw [if_pos h1, Int.toNat_natCast]
        have ec : c % 128 = c := by omega
        rw [ec]
        refine Ev.bind (impl_PutNum_ev _) ?_
        have hp := put_len n c i hn (by omega) hi5
        by_cases h2 : (putIs ((n + c * 128 ^ i : Nat) : Int)).length = i + 1
        · refine ev_pos (by omega) (ev_some ?_)
          rw [if_neg (hp.1 h2)]; rfl
        · refine ev_neg (by omega) (ev_some ?_)
          rw [if_pos (Classical.byContradiction fun z => h2 (hp.2 z))]; rfl
      · refine ev_neg h1 ?_
        rw [if_neg h1, Int.toNat_natCast]
        exact rest
    · have eF : (decide (((a + i : Nat) : Int) < (b.length : Int))) = false := decide_eq_false (by omega)
      rw [eF, List.drop_of_length_le (by omega)]
      exact Ev.step (f := fun _ => some (0, 0, false)) (fun k => by simp only [impl_GetNum.j1]; rw [if_neg (by decide)]) (ev_some rfl)
theorem impl_GetNum_ev (b : List Int) (hb : bytesOk b) (hl : b.length ≤ 281474976710656) (a : Int) : Ev (fun k => impl_GetNum.f k b a) (getIs b a) := by
  unfold impl_GetNum.f getIs
  rw [wrapI ((b.length : Int) - 1) (by omega) (by omega)]
  simp only [impl_within_val, Option.bind_some]
  by_cases h : 0 ≤ a ∧ a < b.length
  · rw [if_pos h]
    refine ev_pos (by simp; omega) ?_
    obtain ⟨m, rfl⟩ := Int.eq_ofNat_of_zero_le h.1
    have := impl_GetNum_loop b hb hl m (by omega) 5 0 0 rfl (by decide) (by omega)
    simpa using this
  · rw [if_neg h]
    exact ev_neg (by simp; omega) (ev_some rfl)

theorem impl_GetText_ev (b : List Int) (hb : bytesOk b) (hl : b.length ≤ 281474976710656) (a : Int) : Ev (fun k => impl_GetText.f k b a) (textIs b a) := by
  unfold impl_GetText.f
  refine Ev.bind (impl_GetNum_ev b hb hl a) ?_
  unfold textIs
  by_cases h : (getIs b a).2.2 = true
  · have hB := getIs_bound b a h
    generalize getIs b a = g at h hB ⊢
    rw [wrapI _ (by omega) (by omega), wrapI _ (by omega) (by omega)]
    refine ev_pos h ?_
    by_cases h2 : g.1 > (b.length : Int) - g.2.1
    · refine ev_pos h2 (ev_some ?_)
      rw [if_neg (by omega)]
    · refine ev_neg h2 (ev_pos (by omega) (ev_pos (by omega) (ev_pos (by omega) (ev_some ?_))))
      rw [if_pos ⟨h, by omega⟩]
  · refine ev_neg h (ev_some ?_)
    rw [if_neg (fun z => h z.1)]

theorem bytes_of_wf (b : List Int) (hw : ∀ x ∈ b, (Lit.int .u8 x).wf = true) : bytesOk b := fun x hx => by
  have h := hw x hx
  simp [Lit.wf, IntKind.min, IntKind.max, IntKind.signed, IntKind.bits] at h
  omega
theorem FnExactGetText (b : List Int) (a : Int) (hm : b.length ≤ maxLen) (hw : ∀ x ∈ b, (Lit.int .u8 x).wf = true) (wa : (Lit.int .i64 a).wf = true) : ∃ k, laws_FnExactGetText.f k b a = some true := by
  refine Ev.rounds ?_
  unfold laws_FnExactGetText.f
  by_cases hl : (b.length : Int) > 1048576
  · exact ev_pos hl (ev_some rfl)
  refine ev_neg hl ?_
  have hB := bytes_of_wf b hw
  have h2 : b.length ≤ 281474976710656 := by omega
  refine Ev.bind (toByteS_ev b h2) (Ev.bind (spec_GetText_ev b hB h2 a) ?_)
  refine Ev.bind (toByteS_ev b h2) (Ev.bind (impl_GetText_ev b hB h2 a) ?_)
  refine ev_pos rfl (ev_pos rfl ?_)
  rw [show ((textIs b a).2.2 != (textIs b a).2.2) = false by simp]
  refine Ev.step (f := fun k => (laws_toByteS.f k b).bind fun t133 => ((laws_eqByteS.f k b t133).bind fun t136 => (if t136 = true then (some true) else (some false)))) (fun k => by simp only [laws_FnExactGetText.j0]; rw [if_neg (by decide)]) ?_
  refine Ev.bind (toByteS_ev b h2) ?_
  exact Ev.bind (eqByteS_ev b b h2) (ev_pos (by simp) (ev_some rfl))
end
end Go.Proofs.Ytjjhigboelhjgaa.Pure
