/- Memory in pieces: what a call holds of memory of its own, block by block, and one rule for each operation that meets it; no condition of its own. -/
import Derived.Test.YtcnciodmhbejiaaDoorWWords
import Derived.Test.YtcnciodmhbejiaaDoorWLast
import Derived.Test.YtcnciodmhbejiaaDoorWKept
namespace Go.Proofs.YtcnciodmhbejiaaDoorH
open Go.RowKit Go.Proofs.YtcnciodmhbejiaaDoorW.PrintWords

/-- A piece of memory: what it says of the blocks F (none of them below B). -/
structure Pc where
  P : Nat → World → (Nat → Prop) → Prop
  lt : ∀ {B : Nat} {w : World} {F : Nat → Prop} {k : Nat}, P B w F → F k → k < w.heap.size
  move : ∀ {B : Nat} {w w1 : World} {F : Nat → Prop}, (∀ k, F k → w1.heap[k]? = w.heap[k]?) → P B w F → P B w1 F

/-- A struct of the call's own. -/
def box (g : Nat) (cs : Array Value) (t : TypeId) : Pc where
  P := fun _ w F => w.heap[g]? = some (.cells cs t (0, 0)) ∧ ∀ k, F k ↔ k = g
  lt := fun h hk => by rw [(h.2 _).1 hk]; exact blk_lt h.1
  move := fun hm h => ⟨(hm g ((h.2 g).2 rfl)).trans h.1, h.2⟩

/-- A row of the call's own. -/
def row {α : Type} (d : Kd α) (e : Nat) (v : Value) (xs : List α) : Pc where
  P := fun B w F => d.R e w B F v xs ∧ ∀ k, F k → k < w.heap.size
  lt := fun h hk => h.2 _ hk
  move := fun {B w w1 F} hm h => ⟨Kd.R_move h.1 hm, fun k hk => by
    have h1 := hm k hk
    have h2 := h.2 k hk
    rw [Array.getElem?_eq_getElem h2] at h1
    exact (Array.getElem?_eq_some_iff.1 h1).1⟩

structure SS (w0 w : World) (L : List Pc) : Prop where
  below : Below w0.heap.size w0 w
  sep : ∃ F : Nat → Nat → Prop, (∀ i p, L[i]? = some p → p.P w0.heap.size w (F i) ∧ ∀ k, F i k → w0.heap.size ≤ k) ∧ ∀ i j k, i ≠ j → F i k → F j k → False

theorem SS.nil (w : World) : SS w w [] := ⟨Below.refl _ _, fun _ _ => False, fun _ _ h => by simp at h, fun _ _ _ _ h => h.elim⟩

/-- What lies in the blocks is kept: so are the pieces. -/
theorem SS.step {w0 w w1 : World} {L : List Pc} (h : SS w0 w L) (hb : Below w0.heap.size w0 w1) (hk : ∀ k, w0.heap.size ≤ k → k < w.heap.size → w1.heap[k]? = w.heap[k]?) : SS w0 w1 L := by
  obtain ⟨_, F, h1, h2⟩ := h
  refine ⟨hb, F, fun i p hp => ?_, h2⟩
  obtain ⟨h3, h4⟩ := h1 i p hp
  exact ⟨p.move (fun k hk' => hk k (h4 k hk') (p.lt h3 hk')) h3, h4⟩
theorem SS.later {w0 w w1 : World} {L : List Pc} (h : SS w0 w L) (hb : Below w.heap.size w w1) : SS w0 w1 L :=
  h.step (below_step h.below hb) (fun k _ hk => hb.block k hk)
theorem SS.drew {w0 w : World} {L : List Pc} (h : SS w0 w L) : SS w0 w.drew L := h.step (below_drew h.below) (fun _ _ _ => rfl)
theorem SS.drewN {w0 w : World} {L : List Pc} (h : SS w0 w L) (n : Nat) : SS w0 (w.drewN n) L := h.step (pw_below_drewN h.below n) (fun _ _ _ => rfl)
theorem SS.drawn {w0 w w1 : World} {L : List Pc} (h : SS w0 w L) (hd : Drawn0 w w1) : SS w0 w1 L := h.later hd.below

/-- A piece more, in blocks that are new. -/
theorem SS.push {w0 w w1 : World} {L : List Pc} (h : SS w0 w L) (hb : Below w.heap.size w w1) (p : Pc) {G : Nat → Prop} (hp : p.P w0.heap.size w1 G) (hG : ∀ k, G k → w.heap.size ≤ k) : SS w0 w1 (p :: L) := by
  have hbw := below_step h.below hb
  have hz := h.below.size
  obtain ⟨_, F, h1, h2⟩ := h
  refine ⟨hbw, fun i k => match i with | 0 => G k | i + 1 => F i k ∧ k < w.heap.size, fun i q hq => ?_, fun i j k hij hi hj => ?_⟩
  · cases i with
    | zero =>
      obtain rfl : p = q := by simpa using hq
      exact ⟨hp, fun k hk => Nat.le_trans hz (hG k hk)⟩
    | succ i =>
      obtain ⟨h3, h4⟩ := h1 i q (by simpa using hq)
      have e : (fun k => F i k ∧ k < w.heap.size) = F i := funext fun k => propext ⟨fun h => h.1, fun h => ⟨h, q.lt h3 h⟩⟩
      show q.P _ w1 (fun k => F i k ∧ k < w.heap.size) ∧ ∀ k, (F i k ∧ k < w.heap.size) → _
      rw [e]
      exact ⟨q.move (fun k hk => hb.block k (q.lt h3 hk)) h3, fun k hk => h4 k hk.1⟩
  · cases i with
    | zero =>
      cases j with
      | zero => exact hij rfl
      | succ j => exact absurd hj.2 (Nat.not_lt.2 (hG k hi))
    | succ i =>
      cases j with
      | zero => exact absurd hi.2 (Nat.not_lt.2 (hG k hj))
      | succ j => exact h2 i j k (fun e => hij (by rw [e])) hi.1 hj.1
/-- Pieces that are new, apart from each other; T: their blocks. -/
inductive New (B : Nat) (w w1 : World) : List Pc → (Nat → Prop) → Prop
  | nil : New B w w1 [] (fun _ => False)
  | cons {p : Pc} {L : List Pc} {G T : Nat → Prop} (hp : p.P B w1 G) (hG : ∀ k, G k → w.heap.size ≤ k) (h : New B w w1 L T) (hd : ∀ k, G k → T k → False) : New B w w1 (p :: L) (fun k => G k ∨ T k)
theorem New.foot {B : Nat} {w w1 : World} {L : List Pc} {T : Nat → Prop} (h : New B w w1 L T) : ∃ F : Nat → Nat → Prop, (∀ i p, L[i]? = some p → p.P B w1 (F i) ∧ ∀ k, F i k → w.heap.size ≤ k ∧ T k) ∧ ∀ i j k, i ≠ j → F i k → F j k → False := by
  induction h with
  | nil => exact ⟨fun _ _ => False, fun i p h => by simp at h, fun _ _ _ _ h => h.elim⟩
  | @cons p L G T hp hG h hd ih =>
    obtain ⟨F, h1, h2⟩ := ih
    refine ⟨fun i k => match i with | 0 => G k | i + 1 => F i k ∧ i < L.length, fun i q hq => ?_, fun i j k hij hi hj => ?_⟩
    · cases i with
      | zero =>
        obtain rfl : p = q := by simpa using hq
        exact ⟨hp, fun k hk => ⟨hG k hk, .inl hk⟩⟩
      | succ i =>
        have hq' : L[i]? = some q := by simpa using hq
        have hi : i < L.length := (List.getElem?_eq_some_iff.1 hq').1
        obtain ⟨h3, h4⟩ := h1 i q hq'
        have e : (fun k => F i k ∧ i < L.length) = F i := funext fun k => propext ⟨fun h => h.1, fun h => ⟨h, hi⟩⟩
        show q.P _ w1 (fun k => F i k ∧ i < L.length) ∧ ∀ k, (F i k ∧ i < L.length) → _
        rw [e]
        exact ⟨h3, fun k hk => ⟨(h4 k hk.1).1, .inr (h4 k hk.1).2⟩⟩
    · cases i with
      | zero =>
        cases j with
        | zero => exact hij rfl
        | succ j => exact hd k hi ((h1 j _ (List.getElem?_eq_getElem hj.2)).2 k hj.1).2
      | succ i =>
        cases j with
        | zero => exact hd k hj ((h1 i _ (List.getElem?_eq_getElem hi.2)).2 k hi.1).2
        | succ j => exact h2 i j k (fun e => hij (by rw [e])) hi.1 hj.1
/-- Some pieces are let go. -/
theorem SS.drop {w0 w : World} {L : List Pc} (h : SS w0 w L) (n : Nat) : SS w0 w (L.drop n) := by
  obtain ⟨hb, F, h1, h2⟩ := h
  exact ⟨hb, fun i => F (n + i), fun i p hp => h1 _ p (by rw [List.getElem?_drop] at hp; exact hp), fun i j k hij hi hj => h2 _ _ k (by omega) hi hj⟩
/-- Piece number i has been written (and may have got new blocks). -/
theorem SS.turn {w0 w w1 : World} {L L' : List Pc} (h : SS w0 w L) (i : Nat) {p p' : Pc} (hi : L[i]? = some p) (hi' : L'[i]? = some p') (ho : ∀ j, j ≠ i → L'[j]? = L[j]?) (hz : w.heap.size ≤ w1.heap.size)
    (hb : w1.os = w.os ∧ w1.tape = w.tape ∧ w1.output = w.output) (hw : ∀ F : Nat → Prop, p.P w0.heap.size w F → (∀ k, F k → w0.heap.size ≤ k) → (∀ k, k < w.heap.size → ¬ F k → w1.heap[k]? = w.heap[k]?) ∧ ∃ G, p'.P w0.heap.size w1 G ∧ ∀ k, G k → F k ∨ w.heap.size ≤ k) : SS w0 w1 L' := by
  obtain ⟨hbw, F, h1, h2⟩ := h
  obtain ⟨h3, h4⟩ := h1 i p hi
  obtain ⟨hk, G, hG, hGF⟩ := hw (F i) h3 h4
  refine ⟨⟨hb.1.trans hbw.os, hb.2.1.trans hbw.tape, hb.2.2.trans hbw.output, Nat.le_trans hbw.size hz, fun k hkB => (hk k (Nat.lt_of_lt_of_le hkB hbw.size) (fun hF => absurd (h4 k hF) (Nat.not_le.2 hkB))).trans (hbw.block k hkB)⟩,
    fun j k => (j = i ∧ G k) ∨ (j ≠ i ∧ j < L.length ∧ F j k), fun j q hq => ?_, fun j l k hjl hj hl => ?_⟩
  · by_cases hji : j = i
    · subst hji
      obtain rfl : p' = q := by rw [hi'] at hq; exact Option.some.inj hq
      have e : (fun k => (j = j ∧ G k) ∨ (j ≠ j ∧ j < L.length ∧ F j k)) = G := funext fun k => propext ⟨fun h => h.elim (fun h => h.2) (fun h => absurd rfl h.1), fun h => .inl ⟨rfl, h⟩⟩
      show p'.P _ w1 (fun k => (j = j ∧ G k) ∨ (j ≠ j ∧ j < L.length ∧ F j k)) ∧ ∀ k, ((j = j ∧ G k) ∨ (j ≠ j ∧ j < L.length ∧ F j k)) → _
      rw [e]
      refine ⟨hG, fun k hk' => ?_⟩
      have hk'' : G k := hk'.elim (fun h => h.2) (fun h => absurd rfl h.1)
      rcases hGF k hk'' with h5 | h5
      · exact h4 k h5
      · exact Nat.le_trans hbw.size h5
    · rw [ho j hji] at hq
      obtain ⟨h5, h6⟩ := h1 j q hq
      have hjl : j < L.length := (List.getElem?_eq_some_iff.1 hq).1
      have e : (fun k => (j = i ∧ G k) ∨ (j ≠ i ∧ j < L.length ∧ F j k)) = F j := funext fun k => propext ⟨fun h => h.elim (fun h => absurd h.1 hji) (fun h => h.2.2), fun h => .inr ⟨hji, hjl, h⟩⟩
      show q.P _ w1 (fun k => (j = i ∧ G k) ∨ (j ≠ i ∧ j < L.length ∧ F j k)) ∧ ∀ k, ((j = i ∧ G k) ∨ (j ≠ i ∧ j < L.length ∧ F j k)) → _
      rw [e]
      exact ⟨q.move (fun k hk' => hk k (q.lt h5 hk') (fun hF => h2 j i k hji hk' hF)) h5, fun k hk' => h6 k (hk'.elim (fun h => absurd h.1 hji) (fun h => h.2.2))⟩
  · rcases hj with ⟨rfl, hj⟩ | ⟨hji, hjl', hj⟩
    · rcases hl with ⟨rfl, _⟩ | ⟨hli, hll, hl⟩
      · exact hjl rfl
      · rcases hGF k hj with h5 | h5
        · exact h2 l j k hli hl h5
        · obtain ⟨h6, _⟩ := h1 l _ (List.getElem?_eq_getElem hll)
          exact absurd (Pc.lt _ h6 hl) (Nat.not_lt.2 h5)
    · rcases hl with ⟨rfl, hl⟩ | ⟨hli, hll, hl⟩
      · rcases hGF k hl with h5 | h5
        · exact h2 j l k hji hj h5
        · obtain ⟨h6, _⟩ := h1 j _ (List.getElem?_eq_getElem hjl')
          exact absurd (Pc.lt _ h6 hj) (Nat.not_lt.2 h5)
      · exact h2 j l k hjl hj hl

/-! ### Which piece -/
class BoxIn (L : List Pc) (g : Nat) (cs : outParam (Array Value)) (t : outParam Nat) (put : outParam (Array Value → List Pc)) : Prop where
  at_ : ∃ i : Nat, L[i]? = some (box g cs t) ∧ ∀ cs', (put cs')[i]? = some (box g cs' t) ∧ ∀ j, j ≠ i → (put cs')[j]? = L[j]?
instance (priority := 2000) BoxIn.head (L : List Pc) (g : Nat) (cs : Array Value) (t : Nat) : BoxIn (box g cs t :: L) g cs t (fun cs' => box g cs' t :: L) :=
  ⟨0, rfl, fun _ => ⟨rfl, fun j hj => by cases j with | zero => exact absurd rfl hj | succ j => rfl⟩⟩
instance BoxIn.tail (q : Pc) (L : List Pc) (g : Nat) (cs : Array Value) (t : Nat) (put : Array Value → List Pc) [h : BoxIn L g cs t put] : BoxIn (q :: L) g cs t (fun cs' => q :: put cs') := by
  obtain ⟨i, h1, h2⟩ := h.at_
  refine ⟨i + 1, h1, fun cs' => ⟨(h2 cs').1, fun j hj => ?_⟩⟩
  cases j with
  | zero => rfl
  | succ j => exact (h2 cs').2 j (fun e => hj (by rw [e]))
/-- A row, by its address. -/
class RowIn (L : List Pc) (A : Option Addr) (i : outParam Nat) {α : outParam Type} (d : outParam (Kd α)) (e : outParam Nat) (n c : outParam Nat) (xs : outParam (List α)) (put : outParam (Value → List α → List Pc)) : Prop where
  at_ : L[i]? = some (row d e (.slice A n c) xs) ∧ ∀ (v' : Value) (xs' : List α), (put v' xs')[i]? = some (row d e v' xs') ∧ ∀ j, j ≠ i → (put v' xs')[j]? = L[j]?
instance (priority := 2000) RowIn.head (L : List Pc) (A : Option Addr) {α : Type} (d : Kd α) (e n c : Nat) (xs : List α) : RowIn (row d e (.slice A n c) xs :: L) A 0 d e n c xs (fun v' xs' => row d e v' xs' :: L) :=
  ⟨rfl, fun _ _ => ⟨rfl, fun j hj => by cases j with | zero => exact absurd rfl hj | succ j => rfl⟩⟩
instance RowIn.tail (q : Pc) (L : List Pc) (A : Option Addr) (i : Nat) {α : Type} (d : Kd α) (e n c : Nat) (xs : List α) (put : Value → List α → List Pc) [h : RowIn L A i d e n c xs put] : RowIn (q :: L) A (i + 1) d e n c xs (fun v' xs' => q :: put v' xs') := by
  obtain ⟨h1, h2⟩ := h.at_
  refine ⟨h1, fun v' xs' => ⟨(h2 v' xs').1, fun j hj => ?_⟩⟩
  cases j with
  | zero => rfl
  | succ j => exact (h2 v' xs').2 j (fun e => hj (by rw [e]))

section
variable {w0 w : World} {L : List Pc}
theorem SS.box {cs : Array Value} {t : Nat} {put : Array Value → List Pc} (h : SS w0 w L) (g : Nat) [hB : BoxIn L g cs t put] : w.heap[g]? = some (.cells cs t (0, 0)) := by
  obtain ⟨i, h1, _⟩ := hB.at_
  obtain ⟨_, F, h2, _⟩ := h
  exact (h2 i _ h1).1.1
theorem SS.cell {cs : Array Value} {t : Nat} {put : Array Value → List Pc} (h : SS w0 w L) (g j : Nat) [hB : BoxIn L g cs t put] : w.cell? ⟨g, j, none⟩ = cs[j]? := blk_cell (h.box g) j
theorem SS.free {cs : Array Value} {t : Nat} {put : Array Value → List Pc} (h : SS w0 w L) (g j : Nat) [hB : BoxIn L g cs t put] : w.frozen? ⟨g, j, none⟩ = false := blk_frozen (h.box g) j
theorem SS.base {cs : Array Value} {t : Nat} {put : Array Value → List Pc} (h : SS w0 w L) (g : Nat) [hB : BoxIn L g cs t put] : w0.heap.size ≤ g := by
  obtain ⟨i, h1, _⟩ := hB.at_
  obtain ⟨_, F, h2, _⟩ := h
  obtain ⟨h3, h4⟩ := h2 i _ h1
  exact h4 g ((h3.2 g).2 rfl)
/-- A box's new cells. -/
theorem SS.put {w1 : World} {cs cs' : Array Value} {t : Nat} {put : Array Value → List Pc} (h : SS w0 w L) (g : Nat) [hB : BoxIn L g cs t put] (hz : w.heap.size = w1.heap.size) (hb : w1.os = w.os ∧ w1.tape = w.tape ∧ w1.output = w.output)
    (hg : w1.heap[g]? = some (.cells cs' t (0, 0))) (ho : ∀ k, k ≠ g → w1.heap[k]? = w.heap[k]?) : SS w0 w1 (put cs') := by
  obtain ⟨i, h1, h2⟩ := hB.at_
  refine h.turn i h1 (h2 cs').1 (h2 cs').2 (Nat.le_of_eq hz) hb (fun F hF _ => ⟨fun k _ hk => ho k (fun e => hk ((hF.2 k).2 e)), F, ⟨hg, hF.2⟩, fun k hk => .inl hk⟩)
theorem SS.setCell {cs : Array Value} {t : Nat} {put : Array Value → List Pc} (h : SS w0 w L) (g j : Nat) (u : Value) [hB : BoxIn L g cs t put] : SS w0 (w.setCell ⟨g, j, none⟩ u) (put (cs.setIfInBounds j u)) :=
  h.put g (by simp [World.setCell]) ⟨rfl, rfl, rfl⟩ (blk_set (h.box g) j u) (fun k hk => Below.heap_setCell w _ u k hk)
section
variable {α β γ : Type} {d : Kd α} {d' : Kd β} {d'' : Kd γ} {e e' e'' n n' n'' c c' c'' i j l : Nat} {xs : List α} {ys : List β} {zs : List γ} {put : Value → List α → List Pc} {put' : Value → List β → List Pc} {put'' : Value → List γ → List Pc}
theorem SS.rows (h : SS w0 w L) (A : Option Addr) [hR : RowIn L A i d e n c xs put] : n = xs.length ∧ n ≤ c ∧ d.C w A xs.length xs := by
  obtain ⟨h1, _⟩ := hR.at_
  obtain ⟨_, F, h2, _⟩ := h
  exact Kd.R_reads' (h2 i _ h1).1.1
theorem SS.reads (h : SS w0 w L) (A : Option Addr) [hR : RowIn L A i d e n c xs put] : d.C w A xs.length xs := (h.rows A).2.2
theorem SS.cap (h : SS w0 w L) (A : Option Addr) [hR : RowIn L A i d e n c xs put] : xs.length ≤ c := by
  obtain ⟨h1, h2, _⟩ := h.rows A
  omega
/-- A row that came back from a call. -/
theorem SS.got1 {w1 : World} {v : Value} {ok : Nat → Prop} (h : SS w0 w L) (hb : Below w.heap.size w w1) (r : d.R e w1 w.heap.size ok v xs) : ∃ A c, v = .slice A xs.length c ∧ SS w0 w1 (row d e (.slice A xs.length c) xs :: L) := by
  obtain ⟨A, c, rfl⟩ := Kd.R_slice r
  refine ⟨A, c, rfl, h.push hb _ (G := fun k => ok k ∧ w.heap.size ≤ k ∧ k < w1.heap.size ∧ ∃ q, q ∈ e :: d.E ∧ ∃ cells, w1.heap[k]? = some (.cells cells q (0, 0))) ⟨?_, fun k hk => hk.2.2.1⟩ (fun k hk => hk.2.1)⟩
  exact Kd.R_lower (Kd.R_bound r) h.below.size
end
section
variable {α β : Type} {enc : α → Value} {h1 : ∀ x, (enc x).oneCell' = true} {enc' : β → Value} {h1' : ∀ x, (enc' x).oneCell' = true} {e e' : Nat} {xs : List α} {ys : List β}
theorem flat_own {α : Type} {d : Kd α} {e : Nat} {w1 : World} {b B : Nat} {v : Value} {xs : List α} {ok : Nat → Prop} (hE : d.E = []) (hb : B ≤ b) (r : d.R e w1 b ok v xs) : (row d e v xs).P B w1 (fun k => v.ownBlock = some k) := by
  refine ⟨Kd.R_lower ?_ hb, fun k hk => Kd.R_lt r k hk⟩
  obtain ⟨_, inner, ho, hr⟩ := r
  exact ⟨fun k hk => hk, inner, ho, hr.imp_ (fun _ _ hp => d.M_mono (fun k hk => by obtain ⟨_, _, _, q, hq, _⟩ := hk; rw [hE] at hq; cases hq) (d.M_bound hp))⟩
/-- Rows that came back from a call, apart from each other. -/
theorem New.row {α : Type} {d : Kd α} {e B : Nat} {w w1 : World} {L : List Pc} {T ok : Nat → Prop} {v : Value} {xs : List α} (hz : B ≤ w.heap.size) (h : New B w w1 L T) (hE : d.E = []) (r : d.R e w1 w.heap.size ok v xs) (hd : ∀ k, v.ownBlock = some k → T k → False) :
    New B w w1 (Go.Proofs.YtcnciodmhbejiaaDoorH.row d e v xs :: L) (fun k => v.ownBlock = some k ∨ T k) := .cons (flat_own hE hz r) (fun k hk => Kd.R_base r k hk) h hd
/-- A row of cells that is not empty, and where it lies. -/
theorem SS.form {n c i : Nat} {put : Value → List α → List Pc} (h : SS w0 w L) (A : Option Addr) [hR : RowIn L A i (Kd.scalar enc h1) e n c xs put] (hp : 0 < xs.length) : ∃ b, A = some ⟨b, 0, none⟩ := by
  obtain ⟨h1, _⟩ := hR.at_
  obtain ⟨_, F, h2, _⟩ := h
  obtain ⟨g, cap, he, _⟩ := Kd.R_form (h2 i _ h1).1.1 hp
  injection he with he
  exact ⟨g, he⟩
theorem SS.cellR {n c i : Nat} {put : Value → List α → List Pc} (h : SS w0 w L) (b : Nat) [hR : RowIn L (some ⟨b, 0, none⟩) i (Kd.scalar enc h1) e n c xs put] (d : α) (j : Int) (h0 : 0 ≤ j) (hj : j < xs.length) :
    w.cell? ⟨b, j.toNat, none⟩ = some (enc (rdOf d xs j)) ∧ w.frozen? ⟨b, j.toNat, none⟩ = false := by
  obtain ⟨h1, _⟩ := hR.at_
  obtain ⟨_, F, h2, _⟩ := h
  have hr := (h2 i _ h1).1.1
  have hn := (Kd.R_reads' hr).1
  exact Kd.R_celln d hr j h0 (by omega)
end
end

/-! ### What a call leaves -/
section
variable {w0 w : World} {L : List Pc} {P : Program} {f : Nat} {args : Array Value}
theorem SS.val (h : SS w0 w L) {E : Ending} (hc : Calls P f args w fun e w' => e = E ∧ Below w.heap.size w w') : Calls P f args w fun e w' => e = E ∧ SS w0 w' L := hc.mono fun _ _ ⟨he, hb⟩ => ⟨he, h.later hb⟩
theorem SS.valD (h : SS w0 w L) {E : Ending} (hc : Calls P f args w fun e w' => e = E ∧ Drawn0 w w') : Calls P f args w fun e w' => e = E ∧ SS w0 w' L := hc.mono fun _ _ ⟨he, hb⟩ => ⟨he, h.drawn hb⟩
theorem SS.get1 {α : Type} {d : Kd α} {e : Nat} {xs : List α} {ok : Value → Nat → Prop} {E : Value → Ending} (h : SS w0 w L) (hc : Calls P f args w fun e' w' => ∃ v0, e' = E v0 ∧ d.R e w' w.heap.size (ok v0) v0 xs ∧ Below w.heap.size w w') :
    Calls P f args w fun e' w' => ∃ A c, e' = E (.slice A xs.length c) ∧ SS w0 w' (row d e (.slice A xs.length c) xs :: L) := hc.mono fun _ _ ⟨_, he, r, hb⟩ => by
  obtain ⟨A, c, rfl, hs⟩ := h.got1 hb r
  exact ⟨A, c, he, hs⟩
end

/-! ### Rows that a call writes -/
section
variable {w0 w : World} {L : List Pc} {P : Program} {f : Nat} {args : Array Value} {E : Ending}
theorem SS.mark {α : Type} {d : Kd α} {e n c i : Nat} {xs ys : List α} {put : Value → List α → List Pc} (h : SS w0 w L) (A : Option Addr) [hR : RowIn L A i d e n c xs put]
    (hc : ∀ F : Nat → Prop, d.R e w w0.heap.size F (.slice A n c) xs → Calls P f args w fun e' w' => e' = E ∧ d.R e w' w0.heap.size (fun k_ => F k_ ∨ w.heap.size ≤ k_) (.slice A n c) ys ∧ Below w0.heap.size w0 w' ∧ Kept w w' (fun k_ => F k_)) :
    Calls P f args w fun e' w' => e' = E ∧ SS w0 w' (put (.slice A n c) ys) := by
  obtain ⟨h1, h2⟩ := hR.at_
  obtain ⟨hb, F, h3, h4⟩ := h
  obtain ⟨h5, h6⟩ := h3 i _ h1
  refine (hc (F i) h5.1).mono fun e' w' ⟨he, hr, hb', hk⟩ => ⟨he, ?_⟩
  obtain ⟨h7, h8⟩ := h2 (.slice A n c) ys
  refine ⟨hb', fun j k => (j = i ∧ (F i k ∨ w.heap.size ≤ k) ∧ k < w'.heap.size) ∨ (j ≠ i ∧ F j k ∧ k < w.heap.size), fun j q hq => ?_, fun j l k hjl hj hl => ?_⟩
  · by_cases hji : j = i
    · subst hji
      obtain rfl : row d e (.slice A n c) ys = q := by rw [h7] at hq; exact Option.some.inj hq
      have e1 : (fun k => (j = j ∧ (F j k ∨ w.heap.size ≤ k) ∧ k < w'.heap.size) ∨ (j ≠ j ∧ F j k ∧ k < w.heap.size)) = fun k => (F j k ∨ w.heap.size ≤ k) ∧ k < w'.heap.size :=
        funext fun k => propext ⟨fun h => h.elim (fun h => h.2) (fun h => absurd rfl h.1), fun h => .inl ⟨rfl, h⟩⟩
      show (row d e (.slice A n c) ys).P _ w' (fun k => (j = j ∧ (F j k ∨ w.heap.size ≤ k) ∧ k < w'.heap.size) ∨ (j ≠ j ∧ F j k ∧ k < w.heap.size)) ∧ ∀ k, ((j = j ∧ (F j k ∨ w.heap.size ≤ k) ∧ k < w'.heap.size) ∨ (j ≠ j ∧ F j k ∧ k < w.heap.size)) → _
      rw [e1]
      refine ⟨⟨Kd.R_mono (Kd.R_bound hr) (fun k hk => ⟨hk.1, hk.2.2.1⟩), fun k hk => hk.2⟩, fun k hk => ?_⟩
      rcases hk.elim (fun h => h.2.1) (fun h => absurd rfl h.1) with h9 | h9
      · exact h6 k h9
      · exact Nat.le_trans hb.size h9
    · rw [h8 j hji] at hq
      obtain ⟨h9, h10⟩ := h3 j q hq
      have e1 : (fun k => (j = i ∧ (F i k ∨ w.heap.size ≤ k) ∧ k < w'.heap.size) ∨ (j ≠ i ∧ F j k ∧ k < w.heap.size)) = F j :=
        funext fun k => propext ⟨fun h => h.elim (fun h => absurd h.1 hji) (fun h => h.2.1), fun h => .inr ⟨hji, h, q.lt h9 h⟩⟩
      show q.P _ w' (fun k => (j = i ∧ (F i k ∨ w.heap.size ≤ k) ∧ k < w'.heap.size) ∨ (j ≠ i ∧ F j k ∧ k < w.heap.size)) ∧ ∀ k, ((j = i ∧ (F i k ∨ w.heap.size ≤ k) ∧ k < w'.heap.size) ∨ (j ≠ i ∧ F j k ∧ k < w.heap.size)) → _
      rw [e1]
      exact ⟨q.move (fun k hk' => hk.2 k (q.lt h9 hk') (fun hF => h4 j i k hji hk' hF)) h9, fun k hk' => h10 k (hk'.elim (fun h => absurd h.1 hji) (fun h => h.2.1))⟩
  · rcases hj with ⟨rfl, hj, _⟩ | ⟨hji, hj, hjz⟩ <;> rcases hl with ⟨rfl, hl, _⟩ | ⟨hli, hl, hlz⟩
    · exact hjl rfl
    · rcases hj with hj | hj
      · exact h4 j l k hjl hj hl
      · omega
    · rcases hl with hl | hl
      · exact h4 j l k hjl hj hl
      · omega
    · exact h4 j l k hjl hj hl
end

/-! ### The operations -/
class ZeroT (P : Program) (t : Nat) (cs : outParam (Array Value)) : Prop where
  eq : (P.info? t).map (fun i => i.zero.map (·.cells)) = some (some cs)
class AggT (P : Program) (t : Nat) (n : outParam Nat) : Prop where
  agg : (P.underlying t).map (fun d => match d with | .struct _ | .array _ _ => true | _ => false) = some true
  size : (P.info? t).map (·.size) = some n
class CellT (P : Program) (t : Nat) : Prop where
  agg : (P.underlying t).map (fun d => match d with | .struct _ | .array _ _ => true | _ => false) = some false
  size : (P.info? t).map (·.size) = some 1
section
variable {P : Program} {ops : Array Oper} {rest : List Oper} {o : Oper} {a : Act} {Q : Exit → Act → World → Prop} {w0 W : World} {L : List Pc}
theorem ev_val {w1 : World} {v : Value} (hw : Region.wanted o (yielded ops a.tmps) = true) (hrun : (execOp a.eval o).run P W = .ok (.value v) w1) (h : wpList P ops Q rest (a.put o.dst v) w1) : wpList P ops Q (o :: rest) a W :=
  BigFrame.wpList_want hw fun K hK => by
    unfold Oper.wp
    rw [hrun]
    exact hK _ _ h
theorem ev_call (N : Option Tmp) (hd : o.dst = N) (hw : Region.wanted o (yielded ops a.tmps) = true) {f : FuncId} {fn : Func} {as : Array Operand} {ts : Array TypeId} (hf : P.funcs[f]? = some fn) (hname : (fn.name == "runtime.NumGoroutine") = false) (hb : fn.body.isSome = true) {args : Array Value}
    (hop : o.op = .call { callee := .value (.func f), args := as, argTypes := ts }) (hargs : as.map a.eval = args)
    (h : Calls P f args W fun e w' => ∃ v, e = .returned v ∧ wpList P ops Q rest (a.put N v) w') : wpList P ops Q (o :: rest) a W := by
  refine BigFrame.wpList_want hw fun K hK => ?_
  have he := Go.Proofs.YtcnciodmhbejiaaDoorW.PrintLast.enters_ hf hname hb args W
  have hrun : (execOp a.eval o).run P W = .ok (.enter f args) W := by
    unfold execOp
    simp [hop, resolve, Deferred.ofValue, invoke, Act.eval, hargs, he]
  unfold Oper.wp
  rw [hrun, Oper.upon_enter]
  refine h.mono fun e w'' hh => ?_
  obtain ⟨v, rfl, hk⟩ := hh
  subst hd
  exact hK _ _ hk
theorem run_cellT {t : TypeId} [hC : CellT P t] (w : World) : (isAgg t).run P w = .ok false w := by
  obtain ⟨d, hu, hd⟩ := Option.map_eq_some_iff.1 hC.agg
  unfold isAgg
  rw [Sem.run_bind, run_underlying hu w]
  cases d <;> simp_all
theorem ev_loadV {t : TypeId} {x : Operand} {A : Addr} {v : Value} (ho : o.op = .load t x) (hw : Region.wanted o (yielded ops a.tmps) = true) (hx : a.eval x = .pointer (some A)) [hC : CellT P t] (hv : W.cell? A = some v)
    (h : wpList P ops Q rest (a.put o.dst v) W) : wpList P ops Q (o :: rest) a W := by
  refine ev_val hw ?_ h
  unfold execOp
  simp only [ho, hx, Instr.loadAt, Instr.sureAddr, Sem.run_bind, Sem.run_pure, Result.andThen_ok, loadVar, run_cellT]
  simp [hv]
/-! #### the same, as one step of a region that draws -/
end
#print axioms SS.turn
end Go.Proofs.YtcnciodmhbejiaaDoorH
