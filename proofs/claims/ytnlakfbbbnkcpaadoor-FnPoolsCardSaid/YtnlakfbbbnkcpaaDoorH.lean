/- Memory in pieces: what a call holds of memory of its own, block by block, and one rule for each operation that meets it; no condition of its own. -/
import Derived.Test.YtnlakfbbbnkcpaaDoorWWords
import Derived.Test.YtnlakfbbbnkcpaaDoorWLast
import Derived.Test.YtnlakfbbbnkcpaaDoorWKept
namespace Go.Proofs.YtnlakfbbbnkcpaaDoorH
open Go.RowKit Go.Proofs.YtnlakfbbbnkcpaaDoorW.PrintWords

/-- A piece of memory: what it says of the blocks F (none of them below B). -/
structure Pc where
  P : Nat → World → (Nat → Prop) → Prop
  lt : ∀ {B : Nat} {w : World} {F : Nat → Prop} {k : Nat}, P B w F → F k → k < w.heap.size
  move : ∀ {B : Nat} {w w1 : World} {F : Nat → Prop}, (∀ k, F k → w1.heap[k]? = w.heap[k]?) → P B w F → P B w1 F

/-- A struct of the call's own. -/
def box (g : Nat) (cs : Array Value) (t : TypeId) : Pc where
  P := fun _ w F => w.heap[g]? = some (.cells cs t (0, 0)) ∧ ∀ k, F k ↔ k = g
  lt := fun h hk => by rw [(h.2 _).1 hk]; exact blk_lt h.1
  move := fun hm h => ⟨(hm g ((h.2 g).2 rfl)).trans h.1, h.2⟩

/-- A row of the call's own. -/
def row {α : Type} (d : Kd α) (e : Nat) (v : Value) (xs : List α) : Pc where
  P := fun B w F => d.R e w B F v xs ∧ ∀ k, F k → k < w.heap.size
  lt := fun h hk => h.2 _ hk
  move := fun {B w w1 F} hm h => ⟨Kd.R_move h.1 hm, fun k hk => by
    have h1 := hm k hk
    have h2 := h.2 k hk
    rw [Array.getElem?_eq_getElem h2] at h1
    exact (Array.getElem?_eq_some_iff.1 h1).1⟩

structure SS (w0 w : World) (L : List Pc) : Prop where
  below : Below w0.heap.size w0 w
  sep : ∃ F : Nat → Nat → Prop, (∀ i p, L[i]? = some p → p.P w0.heap.size w (F i) ∧ ∀ k, F i k → w0.heap.size ≤ k) ∧ ∀ i j k, i ≠ j → F i k → F j k → False

theorem SS.nil (w : World) : SS w w [] := ⟨Below.refl _ _, fun _ _ => False, fun _ _ h => by simp at h, fun _ _ _ _ h => h.elim⟩

/-- What lies in the blocks is kept: so are the pieces. -/
theorem SS.step {w0 w w1 : World} {L : List Pc} (h : SS w0 w L) (hb : Below w0.heap.size w0 w1) (hk : ∀ k, w0.heap.size ≤ k → k < w.heap.size → w1.heap[k]? = w.heap[k]?) : SS w0 w1 L := by
  obtain ⟨_, F, h1, h2⟩ := h
  refine ⟨hb, F, fun i p hp => ?_, h2⟩
  obtain ⟨h3, h4⟩ := h1 i p hp
  exact ⟨p.move (fun k hk' => hk k (h4 k hk') (p.lt h3 hk')) h3, h4⟩
theorem SS.later {w0 w w1 : World} {L : List Pc} (h : SS w0 w L) (hb : Below w.heap.size w w1) : SS w0 w1 L :=
  h.step (below_step h.below hb) (fun k _ hk => hb.block k hk)
theorem SS.drew {w0 w : World} {L : List Pc} (h : SS w0 w L) : SS w0 w.drew L := h.step (below_drew h.below) (fun _ _ _ => rfl)
theorem SS.drewN {w0 w : World} {L : List Pc} (h : SS w0 w L) (n : Nat) : SS w0 (w.drewN n) L := h.step (pw_below_drewN h.below n) (fun _ _ _ => rfl)
theorem SS.drawn {w0 w w1 : World} {L : List Pc} (h : SS w0 w L) (hd : Drawn0 w w1) : SS w0 w1 L := h.later hd.below

/-- A piece more, in blocks that are new. -/
theorem SS.push {w0 w w1 : World} {L : List Pc} (h : SS w0 w L) (hb : Below w.heap.size w w1) (p : Pc) {G : Nat → Prop} (hp : p.P w0.heap.size w1 G) (hG : ∀ k, G k → w.heap.size ≤ k) : SS w0 w1 (p :: L) := by
  have hbw := below_step h.below hb
  have hz := h.below.size
  obtain ⟨_, F, h1, h2⟩ := h
  refine ⟨hbw, fun i k => match i with | 0 => G k | i + 1 => F i k ∧ k < w.heap.size, fun i q hq => ?_, fun i j k hij hi hj => ?_⟩
  · cases i with
    | zero =>
      obtain rfl : p = q := by simpa using hq
      exact ⟨hp, fun k hk => Nat.le_trans hz (hG k hk)⟩
    | succ i =>
      obtain ⟨h3, h4⟩ := h1 i q (by simpa using hq)
      have e : (fun k => F i k ∧ k < w.heap.size) = F i := funext fun k => propext ⟨fun h => h.1, fun h => ⟨h, q.lt h3 h⟩⟩
      show q.P _ w1 (fun k => F i k ∧ k < w.heap.size) ∧ ∀ k, (F i k ∧ k < w.heap.size) → _
      rw [e]
      exact ⟨q.move (fun k hk => hb.block k (q.lt h3 hk)) h3, fun k hk => h4 k hk.1⟩
  · cases i with
    | zero =>
      cases j with
      | zero => exact hij rfl
      | succ j => exact absurd hj.2 (Nat.not_lt.2 (hG k hi))
    | succ i =>
      cases j with
      | zero => exact absurd hi.2 (Nat.not_lt.2 (hG k hj))
      | succ j => exact h2 i j k (fun e => hij (by rw [e])) hi.1 hj.1
/-- Two more, apart from each other. -/
theorem SS.push2 {w0 w w1 : World} {L : List Pc} (h : SS w0 w L) (hb : Below w.heap.size w w1) (p q : Pc) {G G' : Nat → Prop} (hp : p.P w0.heap.size w1 G) (hG : ∀ k, G k → w.heap.size ≤ k)
    (hq : q.P w0.heap.size w1 G') (hG' : ∀ k, G' k → w.heap.size ≤ k) (hd : ∀ k, G k → G' k → False) : SS w0 w1 (p :: q :: L) := by
  have hz := h.below.size
  have hb1 := below_step h.below hb
  obtain ⟨hb0, F0, h10, h20⟩ := h
  refine ⟨hb1, fun i k => match i with | 0 => G k | 1 => G' k | i + 2 => F0 i k ∧ k < w.heap.size, fun i r hr => ?_, fun i j k hij hi hj => ?_⟩
  · match i with
    | 0 =>
      obtain rfl : p = r := by simpa using hr
      exact ⟨hp, fun k hk => Nat.le_trans hz (hG k hk)⟩
    | 1 =>
      obtain rfl : q = r := by simpa using hr
      exact ⟨hq, fun k hk => Nat.le_trans hz (hG' k hk)⟩
    | i + 2 =>
      obtain ⟨h3, h4⟩ := h10 i r (by simpa using hr)
      have e : (fun k => F0 i k ∧ k < w.heap.size) = F0 i := funext fun k => propext ⟨fun h => h.1, fun h => ⟨h, r.lt h3 h⟩⟩
      show r.P _ w1 (fun k => F0 i k ∧ k < w.heap.size) ∧ ∀ k, (F0 i k ∧ k < w.heap.size) → _
      rw [e]
      exact ⟨r.move (fun k hk => hb.block k (r.lt h3 hk)) h3, fun k hk => h4 k hk.1⟩
  · match i, j with
    | 0, 0 => exact hij rfl
    | 1, 1 => exact hij rfl
    | 0, 1 => exact hd k hi hj
    | 1, 0 => exact hd k hj hi
    | 0, j + 2 => exact absurd hj.2 (Nat.not_lt.2 (hG k hi))
    | 1, j + 2 => exact absurd hj.2 (Nat.not_lt.2 (hG' k hi))
    | i + 2, 0 => exact absurd hi.2 (Nat.not_lt.2 (hG k hj))
    | i + 2, 1 => exact absurd hi.2 (Nat.not_lt.2 (hG' k hj))
    | i + 2, j + 2 => exact h20 i j k (fun e => hij (by rw [e])) hi.1 hj.1

/-- Pieces that are new, apart from each other; T: their blocks. -/
inductive New (B : Nat) (w w1 : World) : List Pc → (Nat → Prop) → Prop
  | nil : New B w w1 [] (fun _ => False)
  | cons {p : Pc} {L : List Pc} {G T : Nat → Prop} (hp : p.P B w1 G) (hG : ∀ k, G k → w.heap.size ≤ k) (h : New B w w1 L T) (hd : ∀ k, G k → T k → False) : New B w w1 (p :: L) (fun k => G k ∨ T k)
theorem New.foot {B : Nat} {w w1 : World} {L : List Pc} {T : Nat → Prop} (h : New B w w1 L T) : ∃ F : Nat → Nat → Prop, (∀ i p, L[i]? = some p → p.P B w1 (F i) ∧ ∀ k, F i k → w.heap.size ≤ k ∧ T k) ∧ ∀ i j k, i ≠ j → F i k → F j k → False := by
  induction h with
  | nil => exact ⟨fun _ _ => False, fun i p h => by simp at h, fun _ _ _ _ h => h.elim⟩
  | @cons p L G T hp hG h hd ih =>
    obtain ⟨F, h1, h2⟩ := ih
    refine ⟨fun i k => match i with | 0 => G k | i + 1 => F i k ∧ i < L.length, fun i q hq => ?_, fun i j k hij hi hj => ?_⟩
    · cases i with
      | zero =>
        obtain rfl : p = q := by simpa using hq
        exact ⟨hp, fun k hk => ⟨hG k hk, .inl hk⟩⟩
      | succ i =>
        have hq' : L[i]? = some q := by simpa using hq
        have hi : i < L.length := (List.getElem?_eq_some_iff.1 hq').1
        obtain ⟨h3, h4⟩ := h1 i q hq'
        have e : (fun k => F i k ∧ i < L.length) = F i := funext fun k => propext ⟨fun h => h.1, fun h => ⟨h, hi⟩⟩
        show q.P _ w1 (fun k => F i k ∧ i < L.length) ∧ ∀ k, (F i k ∧ i < L.length) → _
        rw [e]
        exact ⟨h3, fun k hk => ⟨(h4 k hk.1).1, .inr (h4 k hk.1).2⟩⟩
    · cases i with
      | zero =>
        cases j with
        | zero => exact hij rfl
        | succ j => exact hd k hi ((h1 j _ (List.getElem?_eq_getElem hj.2)).2 k hj.1).2
      | succ i =>
        cases j with
        | zero => exact hd k hj ((h1 i _ (List.getElem?_eq_getElem hi.2)).2 k hi.1).2
        | succ j => exact h2 i j k (fun e => hij (by rw [e])) hi.1 hj.1
theorem SS.pushs {w0 w w1 : World} {L L' : List Pc} {T : Nat → Prop} (h : SS w0 w L) (hb : Below w.heap.size w w1) (hn : New w0.heap.size w w1 L' T) : SS w0 w1 (L' ++ L) := by
  have hbw := below_step h.below hb
  have hz := h.below.size
  obtain ⟨F', h1', h2'⟩ := hn.foot
  obtain ⟨_, F, h1, h2⟩ := h
  have get : ∀ i, L'.length ≤ i → (L' ++ L)[i]? = L[i - L'.length]? := fun i hi => List.getElem?_append_right hi
  refine ⟨hbw, fun i k => if i < L'.length then F' i k else F (i - L'.length) k ∧ k < w.heap.size, fun i p hp => ?_, fun i j k hij hi hj => ?_⟩
  · by_cases hi : i < L'.length
    · rw [List.getElem?_append_left hi] at hp
      obtain ⟨h3, h4⟩ := h1' i p hp
      simp only [if_pos hi]
      exact ⟨h3, fun k hk => Nat.le_trans hz (h4 k hk).1⟩
    · rw [get i (by omega)] at hp
      obtain ⟨h3, h4⟩ := h1 _ p hp
      have e : (fun k => F (i - L'.length) k ∧ k < w.heap.size) = F (i - L'.length) := funext fun k => propext ⟨fun h => h.1, fun h => ⟨h, p.lt h3 h⟩⟩
      simp only [if_neg hi]
      rw [e]
      exact ⟨p.move (fun k hk => hb.block k (p.lt h3 hk)) h3, fun k hk => h4 k hk.1⟩
  · by_cases hi' : i < L'.length <;> by_cases hj' : j < L'.length <;> simp only [hi', hj', if_true, if_false] at hi hj
    · exact h2' i j k hij hi hj
    · exact absurd hj.2 (Nat.not_lt.2 ((h1' i _ (List.getElem?_eq_getElem hi')).2 k hi).1)
    · exact absurd hi.2 (Nat.not_lt.2 ((h1' j _ (List.getElem?_eq_getElem hj')).2 k hj).1)
    · exact h2 _ _ k (by omega) hi.1 hj.1
/-- Some pieces are let go. -/
theorem SS.drop {w0 w : World} {L : List Pc} (h : SS w0 w L) (n : Nat) : SS w0 w (L.drop n) := by
  obtain ⟨hb, F, h1, h2⟩ := h
  exact ⟨hb, fun i => F (n + i), fun i p hp => h1 _ p (by rw [List.getElem?_drop] at hp; exact hp), fun i j k hij hi hj => h2 _ _ k (by omega) hi hj⟩
/-- Some of the pieces, in whatever order. -/
theorem SS.perm {w0 w : World} {L : List Pc} (h : SS w0 w L) (is : List Nat) (hn : is.Nodup) : SS w0 w (is.filterMap (fun i => L[i]?)) := by
  obtain ⟨hb, F, h1, h2⟩ := h
  have key : ∃ F' : Nat → Nat → Prop, (∀ j p, (is.filterMap (fun i => L[i]?))[j]? = some p → p.P w0.heap.size w (F' j) ∧ ∀ k, F' j k → w0.heap.size ≤ k) ∧ (∀ i j k, i ≠ j → F' i k → F' j k → False) ∧ ∀ j k, F' j k → ∃ i, i ∈ is ∧ F i k := by
    induction is with
    | nil => exact ⟨fun _ _ => False, fun j p hp => by simp at hp, fun _ _ _ _ h => h.elim, fun _ _ h => h.elim⟩
    | cons i is ih =>
      obtain ⟨hni, hn'⟩ := List.nodup_cons.1 hn
      obtain ⟨F', a1, a2, a3⟩ := ih hn'
      cases hi : L[i]? with
      | none =>
        rw [List.filterMap_cons_none hi]
        exact ⟨F', a1, a2, fun j k hk => by obtain ⟨i', hi', hF⟩ := a3 j k hk; exact ⟨i', List.mem_cons_of_mem _ hi', hF⟩⟩
      | some p =>
        rw [List.filterMap_cons_some hi]
        refine ⟨fun j k => match j with | 0 => F i k | j + 1 => F' j k, fun j q hq => ?_, fun x y k hxy hx hy => ?_, fun j k hk => ?_⟩
        · cases j with
          | zero =>
            obtain rfl : p = q := by simpa using hq
            exact h1 i p hi
          | succ j => exact a1 j q (by simpa using hq)
        · cases x with
          | zero =>
            cases y with
            | zero => exact hxy rfl
            | succ y =>
              obtain ⟨i', hi', hF⟩ := a3 y k hy
              exact h2 i i' k (fun e => hni (e ▸ hi')) hx hF
          | succ x =>
            cases y with
            | zero =>
              obtain ⟨i', hi', hF⟩ := a3 x k hx
              exact h2 i i' k (fun e => hni (e ▸ hi')) hy hF
            | succ y => exact a2 x y k (fun e => hxy (by rw [e])) hx hy
        · cases j with
          | zero => exact ⟨i, List.mem_cons_self, hk⟩
          | succ j => obtain ⟨i', hi', hF⟩ := a3 j k hk; exact ⟨i', List.mem_cons_of_mem _ hi', hF⟩
  obtain ⟨F', a1, a2, _⟩ := key
  exact ⟨hb, F', a1, a2⟩

/-- Piece number i has been written (and may have got new blocks). -/
theorem SS.turn {w0 w w1 : World} {L L' : List Pc} (h : SS w0 w L) (i : Nat) {p p' : Pc} (hi : L[i]? = some p) (hi' : L'[i]? = some p') (ho : ∀ j, j ≠ i → L'[j]? = L[j]?) (hz : w.heap.size ≤ w1.heap.size)
    (hb : w1.os = w.os ∧ w1.tape = w.tape ∧ w1.output = w.output) (hw : ∀ F : Nat → Prop, p.P w0.heap.size w F → (∀ k, F k → w0.heap.size ≤ k) → (∀ k, k < w.heap.size → ¬ F k → w1.heap[k]? = w.heap[k]?) ∧ ∃ G, p'.P w0.heap.size w1 G ∧ ∀ k, G k → F k ∨ w.heap.size ≤ k) : SS w0 w1 L' := by
  obtain ⟨hbw, F, h1, h2⟩ := h
  obtain ⟨h3, h4⟩ := h1 i p hi
  obtain ⟨hk, G, hG, hGF⟩ := hw (F i) h3 h4
  refine ⟨⟨hb.1.trans hbw.os, hb.2.1.trans hbw.tape, hb.2.2.trans hbw.output, Nat.le_trans hbw.size hz, fun k hkB => (hk k (Nat.lt_of_lt_of_le hkB hbw.size) (fun hF => absurd (h4 k hF) (Nat.not_le.2 hkB))).trans (hbw.block k hkB)⟩,
    fun j k => (j = i ∧ G k) ∨ (j ≠ i ∧ j < L.length ∧ F j k), fun j q hq => ?_, fun j l k hjl hj hl => ?_⟩
  · by_cases hji : j = i
    · subst hji
      obtain rfl : p' = q := by rw [hi'] at hq; exact Option.some.inj hq
      have e : (fun k => (j = j ∧ G k) ∨ (j ≠ j ∧ j < L.length ∧ F j k)) = G := funext fun k => propext ⟨fun h => h.elim (fun h => h.2) (fun h => absurd rfl h.1), fun h => .inl ⟨rfl, h⟩⟩
      show p'.P _ w1 (fun k => (j = j ∧ G k) ∨ (j ≠ j ∧ j < L.length ∧ F j k)) ∧ ∀ k, ((j = j ∧ G k) ∨ (j ≠ j ∧ j < L.length ∧ F j k)) → _
      rw [e]
      refine ⟨hG, fun k hk' => ?_⟩
      have hk'' : G k := hk'.elim (fun h => h.2) (fun h => absurd rfl h.1)
      rcases hGF k hk'' with h5 | h5
      · exact h4 k h5
      · exact Nat.le_trans hbw.size h5
    · rw [ho j hji] at hq
      obtain ⟨h5, h6⟩ := h1 j q hq
      have hjl : j < L.length := (List.getElem?_eq_some_iff.1 hq).1
      have e : (fun k => (j = i ∧ G k) ∨ (j ≠ i ∧ j < L.length ∧ F j k)) = F j := funext fun k => propext ⟨fun h => h.elim (fun h => absurd h.1 hji) (fun h => h.2.2), fun h => .inr ⟨hji, hjl, h⟩⟩
      show q.P _ w1 (fun k => (j = i ∧ G k) ∨ (j ≠ i ∧ j < L.length ∧ F j k)) ∧ ∀ k, ((j = i ∧ G k) ∨ (j ≠ i ∧ j < L.length ∧ F j k)) → _
      rw [e]
      exact ⟨q.move (fun k hk' => hk k (q.lt h5 hk') (fun hF => h2 j i k hji hk' hF)) h5, fun k hk' => h6 k (hk'.elim (fun h => absurd h.1 hji) (fun h => h.2.2))⟩
  · rcases hj with ⟨rfl, hj⟩ | ⟨hji, hjl', hj⟩
    · rcases hl with ⟨rfl, _⟩ | ⟨hli, hll, hl⟩
      · exact hjl rfl
      · rcases hGF k hj with h5 | h5
        · exact h2 l j k hli hl h5
        · obtain ⟨h6, _⟩ := h1 l _ (List.getElem?_eq_getElem hll)
          exact absurd (Pc.lt _ h6 hl) (Nat.not_lt.2 h5)
    · rcases hl with ⟨rfl, hl⟩ | ⟨hli, hll, hl⟩
      · rcases hGF k hl with h5 | h5
        · exact h2 j l k hji hj h5
        · obtain ⟨h6, _⟩ := h1 j _ (List.getElem?_eq_getElem hjl')
          exact absurd (Pc.lt _ h6 hj) (Nat.not_lt.2 h5)
      · exact h2 j l k hjl hj hl

/-! ### Which piece -/
class BoxIn (L : List Pc) (g : Nat) (cs : outParam (Array Value)) (t : outParam Nat) (put : outParam (Array Value → List Pc)) : Prop where
  at_ : ∃ i : Nat, L[i]? = some (box g cs t) ∧ ∀ cs', (put cs')[i]? = some (box g cs' t) ∧ ∀ j, j ≠ i → (put cs')[j]? = L[j]?
instance (priority := 2000) BoxIn.head (L : List Pc) (g : Nat) (cs : Array Value) (t : Nat) : BoxIn (box g cs t :: L) g cs t (fun cs' => box g cs' t :: L) :=
  ⟨0, rfl, fun _ => ⟨rfl, fun j hj => by cases j with | zero => exact absurd rfl hj | succ j => rfl⟩⟩
instance BoxIn.tail (q : Pc) (L : List Pc) (g : Nat) (cs : Array Value) (t : Nat) (put : Array Value → List Pc) [h : BoxIn L g cs t put] : BoxIn (q :: L) g cs t (fun cs' => q :: put cs') := by
  obtain ⟨i, h1, h2⟩ := h.at_
  refine ⟨i + 1, h1, fun cs' => ⟨(h2 cs').1, fun j hj => ?_⟩⟩
  cases j with
  | zero => rfl
  | succ j => exact (h2 cs').2 j (fun e => hj (by rw [e]))
/-- A row, by its address. -/
class RowIn (L : List Pc) (A : Option Addr) (i : outParam Nat) {α : outParam Type} (d : outParam (Kd α)) (e : outParam Nat) (n c : outParam Nat) (xs : outParam (List α)) (put : outParam (Value → List α → List Pc)) : Prop where
  at_ : L[i]? = some (row d e (.slice A n c) xs) ∧ ∀ (v' : Value) (xs' : List α), (put v' xs')[i]? = some (row d e v' xs') ∧ ∀ j, j ≠ i → (put v' xs')[j]? = L[j]?
instance (priority := 2000) RowIn.head (L : List Pc) (A : Option Addr) {α : Type} (d : Kd α) (e n c : Nat) (xs : List α) : RowIn (row d e (.slice A n c) xs :: L) A 0 d e n c xs (fun v' xs' => row d e v' xs' :: L) :=
  ⟨rfl, fun _ _ => ⟨rfl, fun j hj => by cases j with | zero => exact absurd rfl hj | succ j => rfl⟩⟩
instance RowIn.tail (q : Pc) (L : List Pc) (A : Option Addr) (i : Nat) {α : Type} (d : Kd α) (e n c : Nat) (xs : List α) (put : Value → List α → List Pc) [h : RowIn L A i d e n c xs put] : RowIn (q :: L) A (i + 1) d e n c xs (fun v' xs' => q :: put v' xs') := by
  obtain ⟨h1, h2⟩ := h.at_
  refine ⟨h1, fun v' xs' => ⟨(h2 v' xs').1, fun j hj => ?_⟩⟩
  cases j with
  | zero => rfl
  | succ j => exact (h2 v' xs').2 j (fun e => hj (by rw [e]))

section
variable {w0 w : World} {L : List Pc}
theorem SS.box {cs : Array Value} {t : Nat} {put : Array Value → List Pc} (h : SS w0 w L) (g : Nat) [hB : BoxIn L g cs t put] : w.heap[g]? = some (.cells cs t (0, 0)) := by
  obtain ⟨i, h1, _⟩ := hB.at_
  obtain ⟨_, F, h2, _⟩ := h
  exact (h2 i _ h1).1.1
theorem SS.cell {cs : Array Value} {t : Nat} {put : Array Value → List Pc} (h : SS w0 w L) (g j : Nat) [hB : BoxIn L g cs t put] : w.cell? ⟨g, j, none⟩ = cs[j]? := blk_cell (h.box g) j
theorem SS.free {cs : Array Value} {t : Nat} {put : Array Value → List Pc} (h : SS w0 w L) (g j : Nat) [hB : BoxIn L g cs t put] : w.frozen? ⟨g, j, none⟩ = false := blk_frozen (h.box g) j
theorem SS.base {cs : Array Value} {t : Nat} {put : Array Value → List Pc} (h : SS w0 w L) (g : Nat) [hB : BoxIn L g cs t put] : w0.heap.size ≤ g := by
  obtain ⟨i, h1, _⟩ := hB.at_
  obtain ⟨_, F, h2, _⟩ := h
  obtain ⟨h3, h4⟩ := h2 i _ h1
  exact h4 g ((h3.2 g).2 rfl)
/-- A box's new cells. -/
theorem SS.put {w1 : World} {cs cs' : Array Value} {t : Nat} {put : Array Value → List Pc} (h : SS w0 w L) (g : Nat) [hB : BoxIn L g cs t put] (hz : w.heap.size = w1.heap.size) (hb : w1.os = w.os ∧ w1.tape = w.tape ∧ w1.output = w.output)
    (hg : w1.heap[g]? = some (.cells cs' t (0, 0))) (ho : ∀ k, k ≠ g → w1.heap[k]? = w.heap[k]?) : SS w0 w1 (put cs') := by
  obtain ⟨i, h1, h2⟩ := hB.at_
  refine h.turn i h1 (h2 cs').1 (h2 cs').2 (Nat.le_of_eq hz) hb (fun F hF _ => ⟨fun k _ hk => ho k (fun e => hk ((hF.2 k).2 e)), F, ⟨hg, hF.2⟩, fun k hk => .inl hk⟩)
theorem SS.setRow {cs cs' : Array Value} {t : Nat} {put : Array Value → List Pc} (h : SS w0 w L) (g : Nat) [hB : BoxIn L g cs t put] : SS w0 (w.setRow g cs') (put cs') :=
  h.put g (by simp [World.setRow]) ⟨rfl, rfl, rfl⟩ (setRow_heap w g cs cs' t _ (h.box g)) (fun k hk => by simp only [World.setRow, Array.getElem?_modify]; rw [if_neg (fun e => hk e.symm)])
theorem SS.setCell {cs : Array Value} {t : Nat} {put : Array Value → List Pc} (h : SS w0 w L) (g j : Nat) (u : Value) [hB : BoxIn L g cs t put] : SS w0 (w.setCell ⟨g, j, none⟩ u) (put (cs.setIfInBounds j u)) :=
  h.put g (by simp [World.setCell]) ⟨rfl, rfl, rfl⟩ (blk_set (h.box g) j u) (fun k hk => Below.heap_setCell w _ u k hk)
section
variable {α β γ : Type} {d : Kd α} {d' : Kd β} {d'' : Kd γ} {e e' e'' n n' n'' c c' c'' i j l : Nat} {xs : List α} {ys : List β} {zs : List γ} {put : Value → List α → List Pc} {put' : Value → List β → List Pc} {put'' : Value → List γ → List Pc}
theorem SS.rows (h : SS w0 w L) (A : Option Addr) [hR : RowIn L A i d e n c xs put] : n = xs.length ∧ n ≤ c ∧ d.C w A xs.length xs := by
  obtain ⟨h1, _⟩ := hR.at_
  obtain ⟨_, F, h2, _⟩ := h
  exact Kd.R_reads' (h2 i _ h1).1.1
theorem SS.reads (h : SS w0 w L) (A : Option Addr) [hR : RowIn L A i d e n c xs put] : d.C w A xs.length xs := (h.rows A).2.2
theorem SS.cap (h : SS w0 w L) (A : Option Addr) [hR : RowIn L A i d e n c xs put] : xs.length ≤ c := by
  obtain ⟨h1, h2, _⟩ := h.rows A
  omega
/-- What goes back: rows that are apart. -/
theorem SS.out1 (h : SS w0 w L) (A : Option Addr) [hR : RowIn L A i d e n c xs put] : d.R e w w0.heap.size (fun _ => True) (.slice A n c) xs := by
  obtain ⟨h1, _⟩ := hR.at_
  obtain ⟨_, F, h2, _⟩ := h
  exact Kd.R_mono (h2 i _ h1).1.1 (fun _ _ => trivial)
theorem SS.out2 (h : SS w0 w L) (A A' : Option Addr) [hR : RowIn L A i d e n c xs put] [hR' : RowIn L A' j d' e' n' c' ys put'] (hij : i ≠ j) : d.R e w w0.heap.size (fun k_ => some k_ ≠ (.slice A' n' c' : Value).ownBlock) (.slice A n c) xs := by
  obtain ⟨h1, _⟩ := hR.at_
  obtain ⟨h1', _⟩ := hR'.at_
  obtain ⟨_, F, h2, h3⟩ := h
  exact Kd.R_mono (h2 i _ h1).1.1 (fun k hk he => h3 i j k hij hk ((h2 j _ h1').1.1.1 k he.symm))
/-- A row that came back from a call. -/
theorem SS.got1 {w1 : World} {v : Value} {ok : Nat → Prop} (h : SS w0 w L) (hb : Below w.heap.size w w1) (r : d.R e w1 w.heap.size ok v xs) : ∃ A c, v = .slice A xs.length c ∧ SS w0 w1 (row d e (.slice A xs.length c) xs :: L) := by
  obtain ⟨A, c, rfl⟩ := Kd.R_slice r
  refine ⟨A, c, rfl, h.push hb _ (G := fun k => ok k ∧ w.heap.size ≤ k ∧ k < w1.heap.size ∧ ∃ q, q ∈ e :: d.E ∧ ∃ cells, w1.heap[k]? = some (.cells cells q (0, 0))) ⟨?_, fun k hk => hk.2.2.1⟩ (fun k hk => hk.2.1)⟩
  exact Kd.R_lower (Kd.R_bound r) h.below.size
end
section
variable {α β : Type} {enc : α → Value} {h1 : ∀ x, (enc x).oneCell' = true} {enc' : β → Value} {h1' : ∀ x, (enc' x).oneCell' = true} {e e' : Nat} {xs : List α} {ys : List β}
theorem row_own {w1 : World} {b : Nat} {v : Value} {ok : Nat → Prop} (hb : w0.heap.size ≤ b) (r : (Kd.scalar enc h1).R e w1 b ok v xs) : (row (Kd.scalar enc h1) e v xs).P w0.heap.size w1 (fun k => v.ownBlock = some k) :=
  ⟨Kd.R_lower (Kd.R_of_own (Kd.own_of_R r) (fun _ hk => hk)) hb, fun k hk => Kd.R_lt r k hk⟩
theorem flat_own {α : Type} {d : Kd α} {e : Nat} {w1 : World} {b B : Nat} {v : Value} {xs : List α} {ok : Nat → Prop} (hE : d.E = []) (hb : B ≤ b) (r : d.R e w1 b ok v xs) : (row d e v xs).P B w1 (fun k => v.ownBlock = some k) := by
  refine ⟨Kd.R_lower ?_ hb, fun k hk => Kd.R_lt r k hk⟩
  obtain ⟨_, inner, ho, hr⟩ := r
  exact ⟨fun k hk => hk, inner, ho, hr.imp_ (fun _ _ hp => d.M_mono (fun k hk => by obtain ⟨_, _, _, q, hq, _⟩ := hk; rw [hE] at hq; cases hq) (d.M_bound hp))⟩
/-- Rows that came back from a call, apart from each other. -/
theorem New.row {α : Type} {d : Kd α} {e B : Nat} {w w1 : World} {L : List Pc} {T ok : Nat → Prop} {v : Value} {xs : List α} (hz : B ≤ w.heap.size) (h : New B w w1 L T) (hE : d.E = []) (r : d.R e w1 w.heap.size ok v xs) (hd : ∀ k, v.ownBlock = some k → T k → False) :
    New B w w1 (Go.Proofs.YtnlakfbbbnkcpaaDoorH.row d e v xs :: L) (fun k => v.ownBlock = some k ∨ T k) := .cons (flat_own hE hz r) (fun k hk => Kd.R_base r k hk) h hd
theorem own_types {α β : Type} {d : Kd α} {d' : Kd β} {e e' b b' : Nat} {w1 : World} {v v' : Value} {ok ok' : Nat → Prop} {xs : List α} {ys : List β} (r : d.R e w1 b ok v xs) (r' : d'.R e' w1 b' ok' v' ys) (hne : e ≠ e') : ∀ k, v.ownBlock = some k → v'.ownBlock = some k → False := fun k h1 h2 => by
  obtain ⟨_, i, ho, _⟩ := r
  obtain ⟨_, i', ho', _⟩ := r'
  obtain ⟨c, hc⟩ := own_typed ho k h1
  obtain ⟨c', hc'⟩ := own_typed ho' k h2
  rw [hc] at hc'
  injection hc' with hc'
  injection hc' with _ hc'
  exact hne hc'
theorem own_apart {α : Type} {d : Kd α} {e b : Nat} {w1 : World} {v v' : Value} {ok : Nat → Prop} {xs : List α} (r : d.R e w1 b ok v xs) (hne : ∀ k, ok k → some k ≠ v'.ownBlock) : ∀ k, v.ownBlock = some k → v'.ownBlock = some k → False := fun k h1 h2 => hne k (r.1 k h1) h2.symm
theorem SS.got2 {w1 : World} {v v' : Value} {ok ok' : Nat → Prop} (h : SS w0 w L) (hb : Below w.heap.size w w1) (r : (Kd.scalar enc h1).R e w1 w.heap.size ok v xs) (r' : (Kd.scalar enc' h1').R e' w1 w.heap.size ok' v' ys) (hne : ∀ k, ok k → some k ≠ v'.ownBlock) :
    ∃ A c A' c', v = .slice A xs.length c ∧ v' = .slice A' ys.length c' ∧ SS w0 w1 (row (Kd.scalar enc h1) e (.slice A xs.length c) xs :: row (Kd.scalar enc' h1') e' (.slice A' ys.length c') ys :: L) := by
  obtain ⟨A, c, rfl⟩ := Kd.R_slice r
  obtain ⟨A', c', rfl⟩ := Kd.R_slice r'
  exact ⟨A, c, A', c', rfl, rfl, h.push2 hb _ _ (row_own h.below.size r) (fun k hk => Kd.R_base r k hk) (row_own h.below.size r') (fun k hk => Kd.R_base r' k hk) (fun k hk hk' => hne k (r.1 k hk) hk'.symm)⟩
/-- A row of cells that is not empty, and where it lies. -/
theorem SS.form {n c i : Nat} {put : Value → List α → List Pc} (h : SS w0 w L) (A : Option Addr) [hR : RowIn L A i (Kd.scalar enc h1) e n c xs put] (hp : 0 < xs.length) : ∃ b, A = some ⟨b, 0, none⟩ := by
  obtain ⟨h1, _⟩ := hR.at_
  obtain ⟨_, F, h2, _⟩ := h
  obtain ⟨g, cap, he, _⟩ := Kd.R_form (h2 i _ h1).1.1 hp
  injection he with he
  exact ⟨g, he⟩
theorem SS.cellR {n c i : Nat} {put : Value → List α → List Pc} (h : SS w0 w L) (b : Nat) [hR : RowIn L (some ⟨b, 0, none⟩) i (Kd.scalar enc h1) e n c xs put] (d : α) (j : Int) (h0 : 0 ≤ j) (hj : j < xs.length) :
    w.cell? ⟨b, j.toNat, none⟩ = some (enc (rdOf d xs j)) ∧ w.frozen? ⟨b, j.toNat, none⟩ = false := by
  obtain ⟨h1, _⟩ := hR.at_
  obtain ⟨_, F, h2, _⟩ := h
  have hr := (h2 i _ h1).1.1
  have hn := (Kd.R_reads' hr).1
  exact Kd.R_celln d hr j h0 (by omega)
theorem SS.setR {n c i : Nat} {put : Value → List α → List Pc} (h : SS w0 w L) (b : Nat) [hR : RowIn L (some ⟨b, 0, none⟩) i (Kd.scalar enc h1) e n c xs put] (j : Int) (x : α) :
    SS w0 (w.setCell ⟨b, j.toNat, none⟩ (enc x)) (put (.slice (some ⟨b, 0, none⟩) n c) (xs.set j.toNat x)) := by
  obtain ⟨h1, h2⟩ := hR.at_
  refine h.turn i h1 (h2 _ _).1 (h2 _ _).2 (by simp [World.setCell]) ⟨rfl, rfl, rfl⟩ (fun F hF _ => ⟨fun k _ hk => Below.heap_setCell w _ _ k (fun e => hk ?_), F, ⟨Kd.R_putn hF.1 j x, fun k hk => ?_⟩, fun k hk => .inl hk⟩)
  · subst e
    exact hF.1.1 _ rfl
  · have := hF.2 k hk
    simpa [World.setCell] using this
theorem SS.cellI {n c i : Nat} {k : IntKind} {xs : List Int} {put : Value → List Int → List Pc} (h : SS w0 w L) (b : Nat) (j : Int) [hR : RowIn L (some ⟨b, 0, none⟩) i (Kd.int k) e n c xs put] (h0 : 0 ≤ j) (hj : j < xs.length) :
    w.cell? ⟨b, j.toNat, none⟩ = some (.int k (rd xs j)) := (SS.cellR (enc := Value.int k) (h1 := fun _ => rfl) h b 0 j h0 hj).1
end
end

/-! ### What a call leaves -/
section
variable {w0 w : World} {L : List Pc} {P : Program} {f : Nat} {args : Array Value}
theorem SS.val (h : SS w0 w L) {E : Ending} (hc : Calls P f args w fun e w' => e = E ∧ Below w.heap.size w w') : Calls P f args w fun e w' => e = E ∧ SS w0 w' L := hc.mono fun _ _ ⟨he, hb⟩ => ⟨he, h.later hb⟩
theorem SS.valD (h : SS w0 w L) {E : Ending} (hc : Calls P f args w fun e w' => e = E ∧ Drawn0 w w') : Calls P f args w fun e w' => e = E ∧ SS w0 w' L := hc.mono fun _ _ ⟨he, hb⟩ => ⟨he, h.drawn hb⟩
theorem SS.get1 {α : Type} {d : Kd α} {e : Nat} {xs : List α} {ok : Value → Nat → Prop} {E : Value → Ending} (h : SS w0 w L) (hc : Calls P f args w fun e' w' => ∃ v0, e' = E v0 ∧ d.R e w' w.heap.size (ok v0) v0 xs ∧ Below w.heap.size w w') :
    Calls P f args w fun e' w' => ∃ A c, e' = E (.slice A xs.length c) ∧ SS w0 w' (row d e (.slice A xs.length c) xs :: L) := hc.mono fun _ _ ⟨_, he, r, hb⟩ => by
  obtain ⟨A, c, rfl, hs⟩ := h.got1 hb r
  exact ⟨A, c, he, hs⟩
theorem SS.get2 {α β : Type} {d : Kd α} {d' : Kd β} {e e' : Nat} {xs : List α} {ys : List β} {ok : Value → Value → Nat → Prop} {E : Value → Value → Ending} (h : SS w0 w L) (hE : d.E = []) (hE' : d'.E = [])
    (hc : Calls P f args w fun x w' => ∃ v0 v1, x = E v0 v1 ∧ d.R e w' w.heap.size (fun k_ => some k_ ≠ v1.ownBlock) v0 xs ∧ d'.R e' w' w.heap.size (ok v0 v1) v1 ys ∧ Below w.heap.size w w') :
    Calls P f args w fun x w' => ∃ A c A' c', x = E (.slice A xs.length c) (.slice A' ys.length c') ∧ SS w0 w' (row d e (.slice A xs.length c) xs :: row d' e' (.slice A' ys.length c') ys :: L) := hc.mono fun _ _ ⟨v0, v1, he, r, r', hb⟩ => by
  obtain ⟨A, c, rfl⟩ := Kd.R_slice r
  obtain ⟨A', c', rfl⟩ := Kd.R_slice r'
  exact ⟨A, c, A', c', he, h.pushs hb (New.row h.below.size (New.row h.below.size .nil hE' r' (fun _ _ h => h)) hE r (fun k h1 h2 => h2.elim (own_apart r (fun _ h => h) k h1) id))⟩
/-- Three rows, each apart from the others. -/
theorem SS.get3 {α β γ : Type} {d : Kd α} {d' : Kd β} {d'' : Kd γ} {e e' e'' : Nat} {xs : List α} {ys : List β} {zs : List γ} {ok : Value → Value → Value → Nat → Prop} {E : Value → Value → Value → Ending} (h : SS w0 w L) (hE : d.E = []) (hE' : d'.E = []) (hE'' : d''.E = [])
    (hc : Calls P f args w fun x w' => ∃ v0 v1 v2, x = E v0 v1 v2 ∧ d.R e w' w.heap.size (fun k_ => some k_ ≠ v1.ownBlock ∧ some k_ ≠ v2.ownBlock) v0 xs ∧ d'.R e' w' w.heap.size (fun k_ => some k_ ≠ v0.ownBlock ∧ some k_ ≠ v2.ownBlock) v1 ys ∧ d''.R e'' w' w.heap.size (ok v0 v1 v2) v2 zs ∧ Below w.heap.size w w') :
    Calls P f args w fun x w' => ∃ A c A' c' A'' c'', x = E (.slice A xs.length c) (.slice A' ys.length c') (.slice A'' zs.length c'') ∧ SS w0 w' (row d e (.slice A xs.length c) xs :: row d' e' (.slice A' ys.length c') ys :: row d'' e'' (.slice A'' zs.length c'') zs :: L) := hc.mono fun _ _ ⟨v0, v1, v2, he, r, r', r'', hb⟩ => by
  obtain ⟨A, c, rfl⟩ := Kd.R_slice r
  obtain ⟨A', c', rfl⟩ := Kd.R_slice r'
  obtain ⟨A'', c'', rfl⟩ := Kd.R_slice r''
  exact ⟨A, c, A', c', A'', c'', he, h.pushs hb (New.row h.below.size (New.row h.below.size (New.row h.below.size .nil hE'' r'' (fun _ _ h => h)) hE' r' (fun k h1 h2 => h2.elim (own_apart r' (fun _ h => h.2) k h1) id)) hE r (fun k h1 h2 => h2.elim (own_apart r (fun _ h => h.1) k h1) (fun h2 => h2.elim (own_apart r (fun _ h => h.2) k h1) id)))⟩
end

/-! ### Rows that a call writes -/
section
variable {w0 w : World} {L : List Pc} {P : Program} {f : Nat} {args : Array Value} {E : Ending}
theorem SS.mark {α : Type} {d : Kd α} {e n c i : Nat} {xs ys : List α} {put : Value → List α → List Pc} (h : SS w0 w L) (A : Option Addr) [hR : RowIn L A i d e n c xs put]
    (hc : ∀ F : Nat → Prop, d.R e w w0.heap.size F (.slice A n c) xs → Calls P f args w fun e' w' => e' = E ∧ d.R e w' w0.heap.size (fun k_ => F k_ ∨ w.heap.size ≤ k_) (.slice A n c) ys ∧ Below w0.heap.size w0 w' ∧ Kept w w' (fun k_ => F k_)) :
    Calls P f args w fun e' w' => e' = E ∧ SS w0 w' (put (.slice A n c) ys) := by
  obtain ⟨h1, h2⟩ := hR.at_
  obtain ⟨hb, F, h3, h4⟩ := h
  obtain ⟨h5, h6⟩ := h3 i _ h1
  refine (hc (F i) h5.1).mono fun e' w' ⟨he, hr, hb', hk⟩ => ⟨he, ?_⟩
  obtain ⟨h7, h8⟩ := h2 (.slice A n c) ys
  refine ⟨hb', fun j k => (j = i ∧ (F i k ∨ w.heap.size ≤ k) ∧ k < w'.heap.size) ∨ (j ≠ i ∧ F j k ∧ k < w.heap.size), fun j q hq => ?_, fun j l k hjl hj hl => ?_⟩
  · by_cases hji : j = i
    · subst hji
      obtain rfl : row d e (.slice A n c) ys = q := by rw [h7] at hq; exact Option.some.inj hq
      have e1 : (fun k => (j = j ∧ (F j k ∨ w.heap.size ≤ k) ∧ k < w'.heap.size) ∨ (j ≠ j ∧ F j k ∧ k < w.heap.size)) = fun k => (F j k ∨ w.heap.size ≤ k) ∧ k < w'.heap.size :=
        funext fun k => propext ⟨fun h => h.elim (fun h => h.2) (fun h => absurd rfl h.1), fun h => .inl ⟨rfl, h⟩⟩
      show (row d e (.slice A n c) ys).P _ w' (fun k => (j = j ∧ (F j k ∨ w.heap.size ≤ k) ∧ k < w'.heap.size) ∨ (j ≠ j ∧ F j k ∧ k < w.heap.size)) ∧ ∀ k, ((j = j ∧ (F j k ∨ w.heap.size ≤ k) ∧ k < w'.heap.size) ∨ (j ≠ j ∧ F j k ∧ k < w.heap.size)) → _
      rw [e1]
      refine ⟨⟨Kd.R_mono (Kd.R_bound hr) (fun k hk => ⟨hk.1, hk.2.2.1⟩), fun k hk => hk.2⟩, fun k hk => ?_⟩
      rcases hk.elim (fun h => h.2.1) (fun h => absurd rfl h.1) with h9 | h9
      · exact h6 k h9
      · exact Nat.le_trans hb.size h9
    · rw [h8 j hji] at hq
      obtain ⟨h9, h10⟩ := h3 j q hq
      have e1 : (fun k => (j = i ∧ (F i k ∨ w.heap.size ≤ k) ∧ k < w'.heap.size) ∨ (j ≠ i ∧ F j k ∧ k < w.heap.size)) = F j :=
        funext fun k => propext ⟨fun h => h.elim (fun h => absurd h.1 hji) (fun h => h.2.1), fun h => .inr ⟨hji, h, q.lt h9 h⟩⟩
      show q.P _ w' (fun k => (j = i ∧ (F i k ∨ w.heap.size ≤ k) ∧ k < w'.heap.size) ∨ (j ≠ i ∧ F j k ∧ k < w.heap.size)) ∧ ∀ k, ((j = i ∧ (F i k ∨ w.heap.size ≤ k) ∧ k < w'.heap.size) ∨ (j ≠ i ∧ F j k ∧ k < w.heap.size)) → _
      rw [e1]
      exact ⟨q.move (fun k hk' => hk.2 k (q.lt h9 hk') (fun hF => h4 j i k hji hk' hF)) h9, fun k hk' => h10 k (hk'.elim (fun h => absurd h.1 hji) (fun h => h.2.1))⟩
  · rcases hj with ⟨rfl, hj, _⟩ | ⟨hji, hj, hjz⟩ <;> rcases hl with ⟨rfl, hl, _⟩ | ⟨hli, hl, hlz⟩
    · exact hjl rfl
    · rcases hj with hj | hj
      · exact h4 j l k hjl hj hl
      · omega
    · rcases hl with hl | hl
      · exact h4 j l k hjl hj hl
      · omega
    · exact h4 j l k hjl hj hl
end

/-! ### The operations -/
class ZeroT (P : Program) (t : Nat) (cs : outParam (Array Value)) : Prop where
  eq : (P.info? t).map (fun i => i.zero.map (·.cells)) = some (some cs)
class AggT (P : Program) (t : Nat) (n : outParam Nat) : Prop where
  agg : (P.underlying t).map (fun d => match d with | .struct _ | .array _ _ => true | _ => false) = some true
  size : (P.info? t).map (·.size) = some n
class CellT (P : Program) (t : Nat) : Prop where
  agg : (P.underlying t).map (fun d => match d with | .struct _ | .array _ _ => true | _ => false) = some false
  size : (P.info? t).map (·.size) = some 1
section
variable {P : Program} {ops : Array Oper} {rest : List Oper} {o : Oper} {a : Act} {Q : Exit → Act → World → Prop} {w0 W : World} {L : List Pc}
theorem gate_load {t : TypeId} {x : Operand} (_ho : o.op = .load t x) (h : wpList P ops Q (o :: rest) a W) : wpList P ops Q (o :: rest) a W := h
theorem gate_put {t : TypeId} {x y : Operand} (_ho : o.op = .store t x y) (h : wpList P ops Q (o :: rest) a W) : wpList P ops Q (o :: rest) a W := h
theorem ev_val {w1 : World} {v : Value} (hw : Region.wanted o (yielded ops a.tmps) = true) (hrun : (execOp a.eval o).run P W = .ok (.value v) w1) (h : wpList P ops Q rest (a.put o.dst v) w1) : wpList P ops Q (o :: rest) a W :=
  BigFrame.wpList_want hw fun K hK => by
    unfold Oper.wp
    rw [hrun]
    exact hK _ _ h
theorem ev_skip {w1 : World} (hw : Region.wanted o (yielded ops a.tmps) = true) (hd : o.dst = none) (hrun : (execOp a.eval o).run P W = .ok .skip w1) (h : wpList P ops Q rest a w1) : wpList P ops Q (o :: rest) a W :=
  BigFrame.wpList_want hw fun K hK => by
    unfold Oper.wp
    rw [hrun]
    show K (a.put o.dst undef) w1
    rw [hd]
    exact hK _ _ h
theorem ev_call (N : Option Tmp) (hd : o.dst = N) (hw : Region.wanted o (yielded ops a.tmps) = true) {f : FuncId} {fn : Func} {as : Array Operand} {ts : Array TypeId} (hf : P.funcs[f]? = some fn) (hname : (fn.name == "runtime.NumGoroutine") = false) (hb : fn.body.isSome = true) {args : Array Value}
    (hop : o.op = .call { callee := .value (.func f), args := as, argTypes := ts }) (hargs : as.map a.eval = args)
    (h : Calls P f args W fun e w' => ∃ v, e = .returned v ∧ wpList P ops Q rest (a.put N v) w') : wpList P ops Q (o :: rest) a W := by
  refine BigFrame.wpList_want hw fun K hK => ?_
  have he := Go.Proofs.YtnlakfbbbnkcpaaDoorW.PrintLast.enters_ hf hname hb args W
  have hrun : (execOp a.eval o).run P W = .ok (.enter f args) W := by
    unfold execOp
    simp [hop, resolve, Deferred.ofValue, invoke, Act.eval, hargs, he]
  unfold Oper.wp
  rw [hrun, Oper.upon_enter]
  refine h.mono fun e w'' hh => ?_
  obtain ⟨v, rfl, hk⟩ := hh
  subst hd
  exact hK _ _ hk
theorem ev_alloc (HS : SS w0 W L) {t : TypeId} {cs : Array Value} (ho : o.op = .alloc t) (hw : Region.wanted o (yielded ops a.tmps) = true) [hz : ZeroT P t cs]
    (h : ∀ g w1, SS w0 w1 (box g cs t :: L) → wpList P ops Q rest (a.put o.dst (.pointer (some ⟨g, 0, none⟩))) w1) : wpList P ops Q (o :: rest) a W := by
  have hz := hz.eq
  cases hi : P.info? t with
  | none => rw [hi] at hz; cases hz
  | some i =>
    rw [hi] at hz
    cases hzz : i.zero with
    | none => simp [hzz] at hz
    | some z =>
      have hc : z.cells = cs := by simpa [hzz] using hz
      refine ev_val hw (w1 := W.alloc (.cells cs t (0, 0))) ?_ (h _ _ (HS.push (below_alloc (Below.refl _ _) _) (box W.heap.size cs t) (G := fun k => k = W.heap.size) ⟨blk_new _ _, fun k => Iff.rfl⟩ (fun k hk => Nat.le_of_eq hk.symm)))
      unfold execOp
      simp [ho, Instr.alloc, zeroValue, typeInfo, hi, hzz, newVar, newRow, hc]
theorem ev_box (HS : SS w0 W L) {t : TypeId} {x : Operand} {cs : Array Value} (ho : o.op = .box t x) (hw : Region.wanted o (yielded ops a.tmps) = true) (hx : (a.eval x).cells = cs)
    (h : ∀ g w1, SS w0 w1 (box g cs t :: L) → wpList P ops Q rest (a.put o.dst (.pointer (some ⟨g, 0, none⟩))) w1) : wpList P ops Q (o :: rest) a W := by
  refine ev_val hw (w1 := W.alloc (.cells cs t (0, 0))) ?_ (h _ _ (HS.push (below_alloc (Below.refl _ _) _) (box W.heap.size cs t) (G := fun k => k = W.heap.size) ⟨blk_new _ _, fun k => Iff.rfl⟩ (fun k hk => Nat.le_of_eq hk.symm)))
  unfold execOp
  simp [ho, Instr.box, newVar, newRow, hx]
theorem ev_loadS (HS : SS w0 W L) {t t' : TypeId} {x : Operand} {g n : Nat} {cs : Array Value} {put : Array Value → List Pc} (ho : o.op = .load t x) (hw : Region.wanted o (yielded ops a.tmps) = true) (hx : a.eval x = .pointer (some ⟨g, 0, none⟩)) [hB : BoxIn L g cs t' put] [hA : AggT P t n] (hn : cs.size = n)
    (h : wpList P ops Q rest (a.put o.dst (.agg cs)) W) : wpList P ops Q (o :: rest) a W := by
  refine ev_val hw ?_ h
  obtain ⟨d, hu, hd⟩ := Option.map_eq_some_iff.1 hA.agg
  unfold execOp
  simp only [ho, hx, Instr.loadAt, Instr.sureAddr, Sem.run_bind, Sem.run_pure, Result.andThen_ok, run_loadVar_row W g t' t cs (0, 0) d (HS.box g) hu (by cases d <;> first | rfl | (exact hd)) (by rw [hA.size, hn])]
theorem run_cellT {t : TypeId} [hC : CellT P t] (w : World) : (isAgg t).run P w = .ok false w := by
  obtain ⟨d, hu, hd⟩ := Option.map_eq_some_iff.1 hC.agg
  unfold isAgg
  rw [Sem.run_bind, run_underlying hu w]
  cases d <;> simp_all
theorem ev_loadV {t : TypeId} {x : Operand} {A : Addr} {v : Value} (ho : o.op = .load t x) (hw : Region.wanted o (yielded ops a.tmps) = true) (hx : a.eval x = .pointer (some A)) [hC : CellT P t] (hv : W.cell? A = some v)
    (h : wpList P ops Q rest (a.put o.dst v) W) : wpList P ops Q (o :: rest) a W := by
  refine ev_val hw ?_ h
  unfold execOp
  simp only [ho, hx, Instr.loadAt, Instr.sureAddr, Sem.run_bind, Sem.run_pure, Result.andThen_ok, loadVar, run_cellT]
  simp [hv]
theorem ev_loadC (HS : SS w0 W L) {t t' : TypeId} {x : Operand} {g j : Nat} {cs : Array Value} {v : Value} {put : Array Value → List Pc} (ho : o.op = .load t x) (hw : Region.wanted o (yielded ops a.tmps) = true) (hx : a.eval x = .pointer (some ⟨g, j, none⟩)) [hB : BoxIn L g cs t' put] [hC : CellT P t] (hv : cs[j]? = some v)
    (h : wpList P ops Q rest (a.put o.dst v) W) : wpList P ops Q (o :: rest) a W := ev_loadV ho hw hx ((HS.cell g j).trans hv) h
theorem ev_storeS (HS : SS w0 W L) {t t' : TypeId} {x y : Operand} {g : Nat} {cs cs' : Array Value} {put : Array Value → List Pc} (ho : o.op = .store t x y) (hw : Region.wanted o (yielded ops a.tmps) = true) (hd : o.dst = none) (hx : a.eval x = .pointer (some ⟨g, 0, none⟩)) (hy : a.eval y = .agg cs') [hB : BoxIn L g cs t' put] {n : Nat} [hA : AggT P t n]
    (hn : cs'.size = n) (hn' : cs.size = n) (h1 : cs'.toList.all (·.oneCell') = true) (h : ∀ w1, SS w0 w1 (put cs') → wpList P ops Q rest a w1) : wpList P ops Q (o :: rest) a W := by
  refine ev_skip hw hd ?_ (h _ (HS.setRow g))
  unfold execOp
  simp only [ho, hx, hy, Instr.storeAt, Instr.sureAddr, Sem.run_bind, Sem.run_pure, Result.andThen_ok, run_storeVar_row W g t' t cs cs' (HS.box g) (by rw [hA.size, hn]) (hn'.trans hn.symm) (by rw [← Array.all_toList]; exact h1)]
theorem ev_storeC (HS : SS w0 W L) {t t' : TypeId} {x y : Operand} {g j : Nat} {cs : Array Value} {u v : Value} {put : Array Value → List Pc} (ho : o.op = .store t x y) (hw : Region.wanted o (yielded ops a.tmps) = true) (hd : o.dst = none) (hx : a.eval x = .pointer (some ⟨g, j, none⟩)) (hy : a.eval y = v) [hB : BoxIn L g cs t' put] [hC : CellT P t]
    (hv : cs[j]? = some u) (h1 : v.oneCell' = true) (h : ∀ w1, SS w0 w1 (put (cs.setIfInBounds j v)) → wpList P ops Q rest a w1) : wpList P ops Q (o :: rest) a W := by
  refine ev_skip hw hd ?_ (h _ (HS.setCell g j v))
  have hc := (HS.cell g j).trans hv
  have hf := HS.free g j
  obtain ⟨i, hi, hs⟩ := Option.map_eq_some_iff.1 hC.size
  have hcs : v.cells = #[v] := by cases v <;> first | rfl | (simp [Value.oneCell'] at h1)
  have hadd : (⟨g, j, none⟩ : Addr).add 0 = ⟨g, j, none⟩ := by unfold Addr.add; split <;> simp_all
  unfold execOp
  simp only [ho, hx, hy, Instr.storeAt, Instr.sureAddr, Sem.run_bind, Sem.run_pure, Result.andThen_ok, storeVar, sizeOf, typeInfo, hi, hs, hcs, run_program]
  simp [storeCells, hadd, run_store P W _ v _ h1, hc, hf]
theorem ev_loadI (HS : SS w0 W L) {t : TypeId} {x : Operand} {b i e n c : Nat} {k : IntKind} {xs : List Int} {put : Value → List Int → List Pc} {j : Int} (ho : o.op = .load t x) (hw : Region.wanted o (yielded ops a.tmps) = true) (hx : a.eval x = .pointer (some ⟨b, j.toNat, none⟩)) [hR : RowIn L (some ⟨b, 0, none⟩) i (Kd.int k) e n c xs put] [hC : CellT P t]
    (h0 : 0 ≤ j) (h1 : j < xs.length) (h : wpList P ops Q rest (a.put o.dst (.int k (rd xs j))) W) : wpList P ops Q (o :: rest) a W :=
  ev_loadV ho hw hx (SS.cellR (enc := Value.int k) (h1 := fun _ => rfl) HS b 0 j h0 h1).1 h
theorem ev_storeV {t : TypeId} {x y : Operand} {A : Addr} {u v : Value} (ho : o.op = .store t x y) (hw : Region.wanted o (yielded ops a.tmps) = true) (hd : o.dst = none) (hx : a.eval x = .pointer (some A)) (hy : a.eval y = v) [hC : CellT P t] (hs0 : A.spot = none)
    (hc : W.cell? A = some u) (hf : W.frozen? A = false) (h1 : v.oneCell' = true) (h : wpList P ops Q rest a (W.setCell A v)) : wpList P ops Q (o :: rest) a W := by
  refine ev_skip hw hd ?_ h
  obtain ⟨i, hi, hs⟩ := Option.map_eq_some_iff.1 hC.size
  have hcs : v.cells = #[v] := by cases v <;> first | rfl | (simp [Value.oneCell'] at h1)
  have hadd : A.add 0 = A := by
    obtain ⟨b, j, s⟩ := A
    subst hs0
    unfold Addr.add
    split <;> simp_all
  unfold execOp
  simp only [ho, hx, hy, Instr.storeAt, Instr.sureAddr, Sem.run_bind, Sem.run_pure, Result.andThen_ok, storeVar, sizeOf, typeInfo, hi, hs, hcs, run_program]
  simp [storeCells, hadd, run_store P W _ v _ h1, hc, hf]
theorem ev_storeI (HS : SS w0 W L) {t : TypeId} {x y : Operand} {b i e n c : Nat} {k : IntKind} {xs : List Int} {put : Value → List Int → List Pc} {j z : Int} (ho : o.op = .store t x y) (hw : Region.wanted o (yielded ops a.tmps) = true) (hd : o.dst = none) (hx : a.eval x = .pointer (some ⟨b, j.toNat, none⟩)) (hy : a.eval y = .int k z)
    [hR : RowIn L (some ⟨b, 0, none⟩) i (Kd.int k) e n c xs put] [hC : CellT P t] (h0 : 0 ≤ j) (h1 : j < xs.length) (h : ∀ w1, SS w0 w1 (put (.slice (some ⟨b, 0, none⟩) n c) (xs.set j.toNat z)) → wpList P ops Q rest a w1) : wpList P ops Q (o :: rest) a W :=
  have hc := SS.cellR (enc := Value.int k) (h1 := fun _ => rfl) HS b 0 j h0 h1
  ev_storeV ho hw hd hx hy rfl hc.1 hc.2 rfl (h _ (SS.setR (enc := Value.int k) (h1 := fun _ => rfl) HS b j z))
/-! #### the same, as one step of a region that draws -/
theorem rl_S {w' : World} (HS : SS w0 w' L) {t t' : TypeId} {x : Operand} {g n : Nat} {cs : Array Value} {put : Array Value → List Pc} (ho : o.op = .load t x) (hx : a.eval x = .pointer (some ⟨g, 0, none⟩)) [hB : BoxIn L g cs t' put] [hA : AggT P t n] (hn : cs.size = n) : (execOp a.eval o).run P w' = .ok (.value (.agg cs)) w' := by
  obtain ⟨d, hu, hd⟩ := Option.map_eq_some_iff.1 hA.agg
  unfold execOp
  simp only [ho, hx, Instr.loadAt, Instr.sureAddr, Sem.run_bind, Sem.run_pure, Result.andThen_ok, run_loadVar_row w' g t' t cs (0, 0) d (HS.box g) hu (by cases d <;> first | rfl | (exact hd)) (by rw [hA.size, hn])]
theorem al_R {K : Act → World → Prop} (HS : SS w0 W L) {N : Option Tmp} {t : TypeId} {cs : Array Value} (hw : Region.wanted o (yielded ops a.tmps) = true) (hN : o.dst = N) (ho : o.op = .alloc t) [hz : ZeroT P t cs]
    (h : ∀ g w1, SS w0 w1 (box g cs t :: L) → K (a.put N (.pointer (some ⟨g, 0, none⟩))) w1) : if Region.wanted o (yielded ops a.tmps) = true then Oper.wp P o a W K Q else K (a.put N undef) W := by
  have hz := hz.eq
  cases hi : P.info? t with
  | none => rw [hi] at hz; cases hz
  | some i =>
    rw [hi] at hz
    cases hzz : i.zero with
    | none => simp [hzz] at hz
    | some z =>
      have hc : z.cells = cs := by simpa [hzz] using hz
      refine Go.Proofs.YtnlakfbbbnkcpaaDoorW.PrintLast.value_ hw hN (w1 := W.alloc (.cells cs t (0, 0))) ?_ (h _ _ (HS.push (below_alloc (Below.refl _ _) _) (box W.heap.size cs t) (G := fun k => k = W.heap.size) ⟨blk_new _ _, fun k => Iff.rfl⟩ (fun k hk => Nat.le_of_eq hk.symm)))
      unfold execOp
      simp [ho, Instr.alloc, zeroValue, typeInfo, hi, hzz, newVar, newRow, hc]
theorem st_R {K : Act → World → Prop} (HS : SS w0 W L) {t t' : TypeId} {x y : Operand} {g n : Nat} {cs cs' : Array Value} {put : Array Value → List Pc} (hw : Region.wanted o (yielded ops a.tmps) = true) (hd : o.dst = none) (ho : o.op = .store t x y) (hx : a.eval x = .pointer (some ⟨g, 0, none⟩)) (hy : a.eval y = .agg cs') [hB : BoxIn L g cs t' put] [hA : AggT P t n]
    (hn : cs'.size = n) (hn' : cs.size = n) (h1 : cs'.toList.all (·.oneCell') = true) (h : ∀ w1, SS w0 w1 (put cs') → K a w1) : if Region.wanted o (yielded ops a.tmps) = true then Oper.wp P o a W K Q else K (a.put none undef) W := by
  refine Go.Proofs.YtnlakfbbbnkcpaaDoorW.PrintLast.skip_ hw hd ?_ (h _ (HS.setRow g))
  unfold execOp
  simp only [ho, hx, hy, Instr.storeAt, Instr.sureAddr, Sem.run_bind, Sem.run_pure, Result.andThen_ok, run_storeVar_row W g t' t cs cs' (HS.box g) (by rw [hA.size, hn]) (hn'.trans hn.symm) (by rw [← Array.all_toList]; exact h1)]
end
#print axioms SS.turn
end Go.Proofs.YtnlakfbbbnkcpaaDoorH
