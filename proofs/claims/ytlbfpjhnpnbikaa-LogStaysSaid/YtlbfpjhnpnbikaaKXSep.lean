/- XSep: what this claim uses. Laid by slim.py (ours). -/
import Derived.Test.YtlbfpjhnpnbikaaKXWords
import Derived.Maps.OwnSet
import Derived.Maps.Views
namespace Go.Proofs.Ytlbfpjhnpnbikaa.X
set_option linter.unusedVariables false
open Go Go.RowKit Go.WideElems Go.ChangeMaps Go.MapKept
open Go.Proofs.YtlbfpjhnpnbikaaW.PrintWords
structure Turn (S : Nat → Prop) (w w' : World) : Prop where
  os : w'.os = w.os
  tape : w'.tape = w.tape
  output : w'.output = w.output
  size : w.heap.size ≤ w'.heap.size
  block : ∀ k, k < w.heap.size → ¬ S k → w'.heap[k]? = w.heap[k]?
theorem Turn.refl (S : Nat → Prop) (w : World) : Turn S w w := ⟨rfl, rfl, rfl, Nat.le_refl _, fun _ _ _ => rfl⟩
theorem Turn.trans {S S' : Nat → Prop} {a b c : World} (h : Turn S a b) (k : Turn S' b c) (hS : ∀ i, S' i → S i ∨ a.heap.size ≤ i) : Turn S a c :=
  ⟨k.os.trans h.os, k.tape.trans h.tape, k.output.trans h.output, Nat.le_trans h.size k.size, fun i hi hn => (k.block i (Nat.lt_of_lt_of_le hi h.size) (fun hs => (hS i hs).elim hn (fun h' => by omega))).trans (h.block i hi hn)⟩
theorem Turn.mono {S S' : Nat → Prop} {a b : World} (h : Turn S a b) (hS : ∀ i, S i → S' i) : Turn S' a b := ⟨h.os, h.tape, h.output, h.size, fun i hi hn => h.block i hi (fun hs => hn (hS i hs))⟩
theorem Turn.of_below {S : Nat → Prop} {a b : World} (h : Below a.heap.size a b) : Turn S a b := ⟨h.os, h.tape, h.output, h.size, fun i hi _ => h.block i hi⟩
theorem Turn.below {S : Nat → Prop} {B : Nat} {a b : World} (h : Turn S a b) (hS : ∀ i, S i → B ≤ i) (hB : B ≤ a.heap.size) : Below B a b :=
  ⟨h.os, h.tape, h.output, h.size, fun i hi => h.block i (Nat.lt_of_lt_of_le hi hB) (fun hs => by have := hS i hs; omega)⟩
theorem Turn.setCell (w : World) (a : Addr) (u : Value) : Turn (fun k => k = a.block) w (w.setCell a u) :=
  ⟨by unfold World.setCell; split <;> rfl, by unfold World.setCell; split <;> rfl, by unfold World.setCell; split <;> rfl, by simp, fun k _ hk => Below.heap_setCell w a u k hk⟩
theorem Turn.grown {w w' : World} {row : Option Nat} (h : w.grownBy w' row) : Turn (fun k => some k = row) w w' := ⟨h.os, h.tape, h.output, h.size, fun k hk hn => h.block k hk hn⟩
structure Res where
  holds : World → (Nat → Prop) → (Nat → Prop) → Prop
  move : ∀ {w w' : World} {O S : Nat → Prop}, holds w O S → (∀ k, O k ∨ S k → w'.heap[k]? = w.heap[k]?) → w.heap.size ≤ w'.heap.size → holds w' O S
def Res.emp : Res := ⟨fun _ _ _ => True, fun _ _ _ => trivial⟩
structure Lies (w0 w : World) (L : List Res) : Prop where
  below : Below w0.heap.size w0 w
  own : ∃ O S : Nat → Nat → Prop, (∀ (i : Nat) (R : Res), L[i]? = some R → R.holds w (O i) (S i)) ∧ (∀ i k, O i k → w0.heap.size ≤ k ∧ k < w.heap.size) ∧ (∀ i k, S i k → k < w.heap.size) ∧ (∀ i j k, O i k → O j k → i = j) ∧ (∀ i j k, O i k → S j k → False)
section
variable {w0 w w' : World} {L : List Res} {R : Res}
theorem Lies.start (w0 : World) : Lies w0 w0 [] := ⟨Below.refl _ _, fun _ _ => False, fun _ _ => False, fun _ _ h => (nomatch h), fun _ _ h => h.elim, fun _ _ h => h.elim, fun _ _ _ h => h.elim, fun _ _ _ h => h.elim⟩
theorem Lies.size (h : Lies w0 w L) : w0.heap.size ≤ w.heap.size := h.below.size
theorem Lies.sel (is : List Nat) (h : Lies w0 w L) (hn : is.Nodup) : Lies w0 w (is.map fun i => L.getD i Res.emp) := by
  obtain ⟨hb, O, S, h1, h2, h3, h4, h5⟩ := h
  refine ⟨hb, fun m k => ∃ i, is[m]? = some i ∧ O i k, fun m k => ∃ i, is[m]? = some i ∧ S i k, ?_, ?_, ?_, ?_, ?_⟩
  · intro m R hR
    rw [List.getElem?_map] at hR
    obtain ⟨i, hi, rfl⟩ := Option.map_eq_some_iff.1 hR
    rw [List.getD_eq_getElem?_getD]
    cases hL : L[i]? with
    | none => trivial
    | some R =>
      have e1 : (fun k => ∃ j, is[m]? = some j ∧ O j k) = O i := by
        funext k
        refine propext ⟨fun ⟨j, hj, hk⟩ => ?_, fun hk => ⟨i, hi, hk⟩⟩
        rw [hi] at hj
        injection hj with hj
        rw [hj]; exact hk
      have e2 : (fun k => ∃ j, is[m]? = some j ∧ S j k) = S i := by
        funext k
        refine propext ⟨fun ⟨j, hj, hk⟩ => ?_, fun hk => ⟨i, hi, hk⟩⟩
        rw [hi] at hj
        injection hj with hj
        rw [hj]; exact hk
      show R.holds w (fun k => ∃ j, is[m]? = some j ∧ O j k) (fun k => ∃ j, is[m]? = some j ∧ S j k)
      rw [e1, e2]
      exact h1 i R hL
  · rintro m k ⟨i, _, hk⟩; exact h2 i k hk
  · rintro m k ⟨i, _, hk⟩; exact h3 i k hk
  · rintro m m' k ⟨i, hi, hk⟩ ⟨j, hj, hk'⟩
    have e := h4 i j k hk hk'
    subst e
    obtain ⟨l1, e1⟩ := List.getElem?_eq_some_iff.1 hi
    obtain ⟨l2, e2⟩ := List.getElem?_eq_some_iff.1 hj
    have hp := List.pairwise_iff_getElem.1 hn
    rcases Nat.lt_trichotomy m m' with h | h | h
    · exact absurd (e1.trans e2.symm) (hp m m' l1 l2 h)
    · exact h
    · exact absurd (e2.trans e1.symm) (hp m' m l2 l1 h)
  · rintro m m' k ⟨i, _, hk⟩ ⟨j, _, hk'⟩; exact h5 i j k hk hk'
theorem Lies.perm (is : List Nat) (m : Nat) (h : Lies w0 w L) (hn : is.Nodup) (hm : ∀ i ∈ is, i < m) : Lies w0 w ((is.map fun i => L.getD i Res.emp) ++ L.drop m) := by
  obtain ⟨hb, O, S, h1, h2, h3, h4, h5⟩ := h
  let f : Nat → Nat := fun i => if h : i < is.length then is[i] else i - is.length + m
  have hf : ∀ i j, f i = f j → i = j := by
    intro i j h
    have hp := List.pairwise_iff_getElem.1 hn
    simp only [f] at h
    by_cases hi : i < is.length <;> by_cases hj : j < is.length
    · rw [dif_pos hi, dif_pos hj] at h
      rcases Nat.lt_trichotomy i j with h' | h' | h'
      · exact absurd h (hp i j hi hj h')
      · exact h'
      · exact absurd h.symm (hp j i hj hi h')
    · rw [dif_pos hi, dif_neg hj] at h
      have := hm _ (List.getElem_mem hi)
      omega
    · rw [dif_neg hi, dif_pos hj] at h
      have := hm _ (List.getElem_mem hj)
      omega
    · rw [dif_neg hi, dif_neg hj] at h
      omega
  refine ⟨hb, fun i => O (f i), fun i => S (f i), fun i R2 hR => ?_, fun i k hk => h2 _ k hk, fun i k hk => h3 _ k hk, fun i j k hi hj => hf i j (h4 _ _ k hi hj), fun i j k hi hj => h5 _ _ k hi hj⟩
  by_cases hi : i < is.length
  · rw [List.getElem?_append_left (by rw [List.length_map]; exact hi), List.getElem?_map, List.getElem?_eq_getElem hi] at hR
    simp only [Option.map_some, Option.some.injEq] at hR
    subst hR
    have e : f i = is[i] := dif_pos hi
    rw [List.getD_eq_getElem?_getD]
    cases hL : L[is[i]]? with
    | none => trivial
    | some R =>
      have := h1 is[i] R hL
      rw [← e] at this
      exact this
  · rw [List.getElem?_append_right (by rw [List.length_map]; omega), List.length_map, List.getElem?_drop] at hR
    have e : f i = i - is.length + m := dif_neg hi
    have := h1 (i - is.length + m) R2 (by rw [← hR]; congr 1; omega)
    rw [← e] at this
    exact this
theorem Lies.tail (h : Lies w0 w (R :: L)) : Lies w0 w L := by
  obtain ⟨hb, O, S, h1, h2, h3, h4, h5⟩ := h
  exact ⟨hb, fun i => O (i + 1), fun i => S (i + 1), fun i R hR => h1 (i + 1) R (by simpa using hR), fun i k hk => h2 _ k hk, fun i k hk => h3 _ k hk, fun i j k hi hj => Nat.succ.inj (h4 _ _ k hi hj), fun i j k hi hj => h5 _ _ k hi hj⟩
theorem Lies.at (h : Lies w0 w L) (i : Nat) (hR : L[i]? = some R) : ∃ O S, R.holds w O S := by
  obtain ⟨hb, O, S, h1, -⟩ := h
  exact ⟨_, _, h1 i R hR⟩
theorem Lies.grow (h : Lies w0 w L) (hb : Below w.heap.size w w') : Lies w0 w' L := by
  obtain ⟨hB, O, S, h1, h2, h3, h4, h5⟩ := h
  refine ⟨hB.trans (hb.mono hB.size), O, S, fun i R hR => ?_, fun i k hk => ⟨(h2 i k hk).1, Nat.lt_of_lt_of_le (h2 i k hk).2 hb.size⟩, fun i k hk => Nat.lt_of_lt_of_le (h3 i k hk) hb.size, h4, h5⟩
  exact R.move (h1 i R hR) (fun k hk => hb.block k (hk.elim (fun h => (h2 i k h).2) (h3 i k))) hb.size
theorem Lies.drew (h : Lies w0 w L) : Lies w0 w.drew L := h.grow (below_drew (Below.refl _ _))
theorem Lies.new {O S : Nat → Prop} (h : Lies w0 w L) (hb : Below w.heap.size w w') (hR : R.holds w' O S) (hO : ∀ k, O k → w.heap.size ≤ k ∧ k < w'.heap.size) (hS : ∀ k, S k → (k < w0.heap.size ∨ w.heap.size ≤ k) ∧ k < w'.heap.size) (hd : ∀ k, O k → ¬ S k) : Lies w0 w' (R :: L) := by
  have hB := (h.grow hb).below
  have hsz := h.size
  obtain ⟨-, O2, S2, g1, g2, g3, g4, g5⟩ := h
  refine ⟨hB, fun i k => match i with | 0 => O k | i + 1 => O2 i k, fun i k => match i with | 0 => S k | i + 1 => S2 i k, ?_, ?_, ?_, ?_, ?_⟩
  · intro i R' hR'
    cases i with
    | zero => simp only [List.getElem?_cons_zero, Option.some.injEq] at hR'; subst hR'; exact hR
    | succ i => exact R'.move (g1 i R' (by simpa using hR')) (fun k hk => hb.block k (hk.elim (fun h => (g2 i k h).2) (g3 i k))) hb.size
  · intro i k hk
    cases i with
    | zero => exact ⟨Nat.le_trans hsz (hO k hk).1, (hO k hk).2⟩
    | succ i => exact ⟨(g2 i k hk).1, Nat.lt_of_lt_of_le (g2 i k hk).2 hb.size⟩
  · intro i k hk
    cases i with
    | zero => exact (hS k hk).2
    | succ i => exact Nat.lt_of_lt_of_le (g3 i k hk) hb.size
  · intro i j k hi hj
    cases i <;> cases j
    · rfl
    · exact absurd (g2 _ k hj).2 (by have := (hO k hi).1; omega)
    · exact absurd (g2 _ k hi).2 (by have := (hO k hj).1; omega)
    · exact congrArg _ (g4 _ _ k hi hj)
  · intro i j k hi hj
    cases i <;> cases j
    · exact hd k hi hj
    · exact absurd (g3 _ k hj) (by have := (hO k hi).1; omega)
    · rcases (hS k hj).1 with h | h
      · exact absurd (g2 _ k hi).1 (by omega)
      · exact absurd (g2 _ k hi).2 (by omega)
    · exact g5 _ _ k hi hj
def Rd (w0 : World) (L : List Res) (P : World → Prop) : Prop := ∀ w', Lies w0 w' L → P w'
theorem Lies.step (h : Lies w0 w (R :: L)) : ∃ O S, R.holds w O S ∧ (∀ k, O k → w0.heap.size ≤ k ∧ k < w.heap.size) ∧ (∀ k, S k → k < w.heap.size) ∧ (∀ k, O k → ¬ S k) ∧
    (∀ {w' : World} {R' : Res} {O' S' : Nat → Prop}, Turn O w w' → R'.holds w' O' S' → (∀ k, O' k → O k ∨ (w.heap.size ≤ k ∧ k < w'.heap.size)) → (∀ k, S' k → S k ∨ O k ∨ (w.heap.size ≤ k ∧ k < w'.heap.size)) → (∀ k, O' k → ¬ S' k) → Lies w0 w' (R' :: L)) := by
  obtain ⟨hB, O, S, h1, h2, h3, h4, h5⟩ := h
  refine ⟨O 0, S 0, h1 0 R rfl, h2 0, h3 0, fun k a b => h5 0 0 k a b, ?_⟩
  intro w' R' O' S' ht hR hO hS hd
  refine ⟨hB.trans (ht.below (fun i hi => (h2 0 i hi).1) hB.size), fun i k => match i with | 0 => O' k | i + 1 => O (i + 1) k, fun i k => match i with | 0 => S' k | i + 1 => S (i + 1) k, ?_, ?_, ?_, ?_, ?_⟩
  · intro i R2 hR2
    cases i with
    | zero => simp only [List.getElem?_cons_zero, Option.some.injEq] at hR2; subst hR2; exact hR
    | succ i => exact R2.move (h1 (i + 1) R2 hR2) (fun k hk => ht.block k (hk.elim (fun h => (h2 _ k h).2) (h3 _ k)) (fun h0 => hk.elim (fun h => by have := h4 _ _ k h0 h; omega) (fun h => h5 _ _ k h0 h))) ht.size
  · intro i k hk
    cases i with
    | zero => exact (hO k hk).elim (fun h => ⟨(h2 0 k h).1, Nat.lt_of_lt_of_le (h2 0 k h).2 ht.size⟩) (fun h => ⟨Nat.le_trans hB.size h.1, h.2⟩)
    | succ i => exact ⟨(h2 _ k hk).1, Nat.lt_of_lt_of_le (h2 _ k hk).2 ht.size⟩
  · intro i k hk
    cases i with
    | zero => exact (hS k hk).elim (fun h => Nat.lt_of_lt_of_le (h3 0 k h) ht.size) (fun h => h.elim (fun h => Nat.lt_of_lt_of_le (h2 0 k h).2 ht.size) (fun h => h.2))
    | succ i => exact Nat.lt_of_lt_of_le (h3 _ k hk) ht.size
  · intro i j k hi hj
    cases i <;> cases j
    · rfl
    · exact (hO k hi).elim (fun h => absurd (h4 _ _ k h hj) (by omega)) (fun h => absurd (h2 _ k hj).2 (by omega))
    · exact (hO k hj).elim (fun h => absurd (h4 _ _ k h hi) (by omega)) (fun h => absurd (h2 _ k hi).2 (by omega))
    · exact h4 _ _ k hi hj
  · intro i j k hi hj
    cases i <;> cases j
    · exact hd k hi hj
    · exact (hO k hi).elim (fun h => h5 _ _ k h hj) (fun h => absurd (h3 _ k hj) (by omega))
    · rcases hS k hj with h | h | h
      · exact h5 _ _ k hi h
      · exact absurd (h4 _ _ k h hi) (by omega)
      · exact absurd (h2 _ k hi).2 (by omega)
    · exact h5 _ _ k hi hj
theorem Lies.apart (h : Lies w0 w (R :: L)) {k : IntKind} {n : Nat} {A : Option Addr} {xs : List Int} (hr : Rd w0 L fun w' => (Kd.int k).C w' A n xs) : ∃ O S, R.holds w O S ∧ (∀ k, O k → w0.heap.size ≤ k ∧ k < w.heap.size) ∧ (∀ k, S k → k < w.heap.size) ∧ (∀ k, O k → ¬ S k) ∧ (∀ ad, A = some ad → 0 < n → ¬ O ad.block) ∧
    (∀ {w' : World} {R' : Res} {O' S' : Nat → Prop}, Turn O w w' → R'.holds w' O' S' → (∀ k, O' k → O k ∨ (w.heap.size ≤ k ∧ k < w'.heap.size)) → (∀ k, S' k → S k ∨ O k ∨ (w.heap.size ≤ k ∧ k < w'.heap.size)) → (∀ k, O' k → ¬ S' k) → Lies w0 w' (R' :: L)) := by
  obtain ⟨O, S, h1, h2, h3, h4, h5⟩ := h.step
  refine ⟨O, S, h1, h2, h3, h4, ?_, @h5⟩
  intro ad e hn hO
  subst e
  have hT : Turn O w { w with heap := w.heap.setIfInBounds ad.block (.cells #[] 0) } := ⟨rfl, rfl, rfl, by simp, fun k _ hk => by
    have : k ≠ ad.block := fun e => hk (by rw [e]; exact hO)
    simp [Ne.symm this]⟩
  have hs := h5 (R' := Res.emp) (O' := fun _ => False) (S' := fun _ => False) hT trivial (fun _ h => h.elim) (fun _ h => h.elim) (fun _ h => h.elim)
  have hC := hr _ hs.tail
  obtain ⟨ad', e, hc⟩ := hC.2.2 hn
  injection e with e
  subst e
  have hl := hC.1
  obtain ⟨c, -, hK, hc⟩ := hc 0 _ (List.getElem?_eq_getElem (by omega))
  have hK' : c = [.int k xs[0]] := hK
  subst hK'
  have h6 := hc 0 _ rfl
  have hb : (ad.add (0 * (Kd.int k).sz + 0)).block = ad.block := by unfold Addr.add; split <;> rfl
  have hlt := (h2 _ hO).2
  have h7 : ∀ q : Addr, q.block = ad.block → World.cell? { w with heap := w.heap.setIfInBounds ad.block (.cells #[] 0) } q = none := fun q hq => by
    simp [World.cell?, hq, hlt]
  rw [h7 _ hb] at h6
  cases h6
theorem Rd.arg {α : Type} {d : Kd α} {A : Option Addr} {n : Nat} {xs : List α} (h : d.C w0 A n xs) : Rd w0 L fun w' => d.C w' A n xs := fun _ hs => Kd.C_below h hs.below
theorem Rd.tail {P : World → Prop} (h : Rd w0 L P) : Rd w0 (R :: L) P := fun w' hs => h w' hs.tail
theorem Rd.imp {P Q : World → Prop} (h : Rd w0 L P) (hi : ∀ w', P w' → Q w') : Rd w0 L Q := fun w' hs => hi w' (h w' hs)
theorem Rd.sel {P : World → Prop} (is : List Nat) (hn : is.Nodup) (h : Rd w0 (is.map fun i => L.getD i Res.emp) P) : Rd w0 L P := fun w' hs => h w' (hs.sel is hn)
theorem u8_lt {w : World} {ad : Addr} {n : Nat} {xs : List Int} (h : (Kd.int .u8).C w (some ad) n xs) (h0 : 0 < n) : ad.block < w.heap.size := by
  have hl := h.1
  have hj : (xs.map (Value.int .u8))[0]? = some (.int .u8 (xs[0]'(by omega))) := by rw [List.getElem?_map, List.getElem?_eq_getElem (by omega)]; rfl
  exact World.block_lt_of_cell? _ _ (C_cells h 0 _ hj)
def Res.box (g : Nat) (cs : Array Value) (t : TypeId) : Res := ⟨fun w O _ => Blk w g cs t ∧ O g, fun {w w' O S} h hm _ => ⟨(hm g (.inl h.2)).trans h.1, h.2⟩⟩
theorem Lies.boxed {g : Nat} {cs : Array Value} {t : TypeId} (h : Lies w0 w L) (i : Nat) (hi : L[i]? = some (.box g cs t)) : Blk w g cs t := by
  obtain ⟨O, S, hb, -⟩ := h.at i hi
  exact hb
theorem Lies.alloc (h : Lies w0 w L) (cs : Array Value) (t : TypeId) : Lies w0 (w.alloc (.cells cs t (0, 0))) (.box w.heap.size cs t :: L) :=
  h.new (O := fun k => k = w.heap.size) (S := fun _ => False) ((Below.refl _ _).alloc (Nat.le_refl _) _) ⟨Blk.new w cs t, rfl⟩ (fun k hk => by subst hk; exact ⟨Nat.le_refl _, by simp⟩) (fun _ h => h.elim) (fun _ _ h => h)
theorem Lies.set {g : Nat} {cs : Array Value} {t : TypeId} (h : Lies w0 w (.box g cs t :: L)) (i : Nat) (u : Value) : Lies w0 (w.setCell ⟨g, i, none⟩ u) (.box g (cs.setIfInBounds i u) t :: L) := by
  obtain ⟨O, S, ⟨hb, hg⟩, h2, h3, h4, h5⟩ := h.step
  exact h5 ((Turn.setCell w ⟨g, i, none⟩ u).mono (fun k hk => by subst hk; exact hg)) ⟨hb.set i u, hg⟩ (fun k hk => .inl hk) (fun k hk => .inl hk) h4
def Res.row {α : Type} (d : Kd α) (e : TypeId) (v : Value) (xs : List α) : Res := ⟨fun w O _ => d.R e w 0 O v xs, fun h hm _ => Kd.R_move h (fun k hk => hm k (.inl hk))⟩
theorem Lies.rowed {α : Type} {d : Kd α} {e : TypeId} {v : Value} {xs : List α} (h : Lies w0 w L) (i : Nat) (hi : L[i]? = some (.row d e v xs)) : ∃ O, d.R e w 0 O v xs := by
  obtain ⟨O, S, hb⟩ := h.at i hi
  exact ⟨O, hb⟩
theorem Lies.newRow {α : Type} {d : Kd α} {e : TypeId} {v : Value} {xs : List α} (h : Lies w0 w L) (hb : Below w.heap.size w w') (hr : d.R e w' w.heap.size (fun _ => True) v xs) : Lies w0 w' (.row d e v xs :: L) :=
  h.new (O := fun k => w.heap.size ≤ k ∧ k < w'.heap.size) (S := fun _ => False) hb (Kd.R_mono (Kd.R_lower (Kd.R_bound hr) (Nat.zero_le _)) (fun k hk => ⟨hk.2.1, hk.2.2.1⟩)) (fun k hk => hk) (fun _ h => h.elim) (fun _ _ h => h)
theorem Lies.rowC {α : Type} {d : Kd α} {e : TypeId} {A : Option Addr} {n c : Nat} {xs : List α} (h : Lies w0 w L) (i : Nat) (hi : L[i]? = some (.row d e (.slice A n c) xs)) : d.C w A n xs ∧ n ≤ c ∧ n = xs.length := by
  obtain ⟨O, hr⟩ := h.rowed i hi
  have h2 := Kd.R_reads' hr
  rw [h2.1]
  exact ⟨h2.2.2, h2.1 ▸ h2.2.1, rfl⟩
theorem Rd.row {α : Type} {d : Kd α} {e : TypeId} {A : Option Addr} {n c : Nat} {xs : List α} (i : Nat) (hi : L[i]? = some (.row d e (.slice A n c) xs)) : Rd w0 L fun w' => d.C w' A n xs := fun w' h => (h.rowC i hi).1
end
def Res.sep (A : List Res) : Res := ⟨fun w O S => ∃ Of Sf : Nat → Nat → Prop, (∀ (i : Nat) (R : Res), A[i]? = some R → R.holds w (Of i) (Sf i)) ∧ (∀ i k, Of i k → O k) ∧ (∀ i k, Sf i k → S k) ∧ (∀ i j k, Of i k → Of j k → i = j) ∧ (∀ i j k, Of i k → Sf j k → False), fun {w w' O S} h hm hs => by
  obtain ⟨Of, Sf, h1, h2, h3, h4, h5⟩ := h
  exact ⟨Of, Sf, fun i R hR => R.move (h1 i R hR) (fun k hk => hm k (hk.imp (h2 i k) (h3 i k))) hs, h2, h3, h4, h5⟩⟩
def Res.ex {α : Type} (f : α → Res) : Res := ⟨fun w O S => ∃ a, (f a).holds w O S, fun {w w' O S} h hm hs => by
  obtain ⟨a, h⟩ := h
  exact ⟨a, (f a).move h hm hs⟩⟩
def Res.fact (φ : Prop) : Res := ⟨fun _ _ _ => φ, fun h _ _ => h⟩
section
variable {w0 w w' : World} {L A : List Res} {R : Res}
theorem Lies.imp {R' : Res} (h : Lies w0 w (R :: L)) (hi : ∀ O S, R.holds w O S → R'.holds w O S) : Lies w0 w (R' :: L) := by
  obtain ⟨hb, O, S, h1, h2, h3, h4, h5⟩ := h
  refine ⟨hb, O, S, fun i R2 hR => ?_, h2, h3, h4, h5⟩
  cases i with
  | zero => simp only [List.getElem?_cons_zero, Option.some.injEq] at hR; subst hR; exact hi _ _ (h1 0 R rfl)
  | succ i => exact h1 (i + 1) R2 (by simpa using hR)
theorem Lies.exi {α : Type} {f : α → Res} (h : Lies w0 w (.ex f :: L)) : ∃ a, Lies w0 w (f a :: L) := by
  obtain ⟨hb, O, S, h1, h2, h3, h4, h5⟩ := h
  obtain ⟨a, ha⟩ := h1 0 _ rfl
  refine ⟨a, hb, O, S, fun i R2 hR => ?_, h2, h3, h4, h5⟩
  cases i with
  | zero => simp only [List.getElem?_cons_zero, Option.some.injEq] at hR; subst hR; exact ha
  | succ i => exact h1 (i + 1) R2 (by simpa using hR)
theorem Lies.toEx {α : Type} {f : α → Res} (a : α) (h : Lies w0 w (f a :: L)) : Lies w0 w (.ex f :: L) := h.imp (fun _ _ hh => ⟨a, hh⟩)
theorem Lies.facts {φ : Prop} (h : Lies w0 w L) (i : Nat) (hi : L[i]? = some (.fact φ)) : φ := by
  obtain ⟨O, S, hb⟩ := h.at i hi
  exact hb
theorem Lies.andFact {φ : Prop} (h : Lies w0 w L) (hφ : φ) : Lies w0 w (.fact φ :: L) := by
  obtain ⟨hb, O, S, h1, h2, h3, h4, h5⟩ := h
  refine ⟨hb, fun i k => match i with | 0 => False | i + 1 => O i k, fun i k => match i with | 0 => False | i + 1 => S i k, ?_, ?_, ?_, ?_, ?_⟩
  · intro i R hR
    cases i with
    | zero => simp only [List.getElem?_cons_zero, Option.some.injEq] at hR; subst hR; exact hφ
    | succ i => exact h1 i R (by simpa using hR)
  · intro i k hk
    cases i with
    | zero => exact hk.elim
    | succ i => exact h2 i k hk
  · intro i k hk
    cases i with
    | zero => exact hk.elim
    | succ i => exact h3 i k hk
  · intro i j k hi hj
    cases i <;> cases j
    · rfl
    · exact hi.elim
    · exact hj.elim
    · exact congrArg _ (h4 _ _ k hi hj)
  · intro i j k hi hj
    cases i <;> cases j
    · exact hi
    · exact hi
    · exact hj
    · exact h5 _ _ k hi hj
theorem Lies.swap {R' : Res} (h : Lies w0 w (R :: R' :: L)) : Lies w0 w (R' :: R :: L) := by
  obtain ⟨hb, O, S, h1, h2, h3, h4, h5⟩ := h
  let f : Nat → Nat := fun i => if i = 0 then 1 else if i = 1 then 0 else i
  have hf : ∀ i j, f i = f j → i = j := by
    intro i j h
    simp only [f] at h
    split at h <;> split at h <;> (try split at h) <;> (try split at h) <;> omega
  refine ⟨hb, fun i => O (f i), fun i => S (f i), fun i R2 hR => ?_, fun i k hk => h2 _ k hk, fun i k hk => h3 _ k hk, fun i j k hi hj => hf i j (h4 _ _ k hi hj), fun i j k hi hj => h5 _ _ k hi hj⟩
  match i with
  | 0 => exact h1 1 R2 (by simpa using hR)
  | 1 => exact h1 0 R2 (by simpa using hR)
  | i + 2 => exact h1 (i + 2) R2 (by simpa using hR)
theorem Lies.open_ (h : Lies w0 w (.sep A :: L)) : Lies w0 w (A ++ L) := by
  obtain ⟨hb, O, S, h1, h2, h3, h4, h5⟩ := h
  obtain ⟨Of, Sf, g1, g2, g3, g4, g5⟩ := h1 0 _ rfl
  refine ⟨hb, fun i k => if i < A.length then Of i k else O (i - A.length + 1) k, fun i k => if i < A.length then Sf i k else S (i - A.length + 1) k, ?_, ?_, ?_, ?_, ?_⟩
  · intro i R hR
    by_cases hi : i < A.length
    · rw [List.getElem?_append_left hi] at hR
      simp only [if_pos hi]
      exact g1 i R hR
    · rw [List.getElem?_append_right (by omega)] at hR
      simp only [if_neg hi]
      exact h1 (i - A.length + 1) R (by simpa using hR)
  · intro i k hk
    by_cases hi : i < A.length
    · simp only [if_pos hi] at hk
      exact h2 0 k (g2 i k hk)
    · simp only [if_neg hi] at hk
      exact h2 _ k hk
  · intro i k hk
    by_cases hi : i < A.length
    · simp only [if_pos hi] at hk
      exact h3 0 k (g3 i k hk)
    · simp only [if_neg hi] at hk
      exact h3 _ k hk
  · intro i j k hi hj
    by_cases h6 : i < A.length <;> by_cases h7 : j < A.length
    · simp only [if_pos h6] at hi
      simp only [if_pos h7] at hj
      exact g4 i j k hi hj
    · simp only [if_pos h6] at hi
      simp only [if_neg h7] at hj
      exact absurd (h4 _ _ k (g2 i k hi) hj) (by omega)
    · simp only [if_neg h6] at hi
      simp only [if_pos h7] at hj
      exact absurd (h4 _ _ k hi (g2 j k hj)) (by omega)
    · simp only [if_neg h6] at hi
      simp only [if_neg h7] at hj
      have := h4 _ _ k hi hj
      omega
  · intro i j k hi hj
    by_cases h6 : i < A.length <;> by_cases h7 : j < A.length
    · simp only [if_pos h6] at hi
      simp only [if_pos h7] at hj
      exact g5 i j k hi hj
    · simp only [if_pos h6] at hi
      simp only [if_neg h7] at hj
      exact h5 _ _ k (g2 i k hi) hj
    · simp only [if_neg h6] at hi
      simp only [if_pos h7] at hj
      exact h5 _ _ k hi (g3 j k hj)
    · simp only [if_neg h6] at hi
      simp only [if_neg h7] at hj
      exact h5 _ _ k hi hj
theorem Lies.close (A : List Res) (h : Lies w0 w (A ++ L)) : Lies w0 w (.sep A :: L) := by
  obtain ⟨hb, O, S, h1, h2, h3, h4, h5⟩ := h
  refine ⟨hb, fun i k => match i with | 0 => ∃ j, j < A.length ∧ O j k | i + 1 => O (i + A.length) k, fun i k => match i with | 0 => ∃ j, j < A.length ∧ S j k | i + 1 => S (i + A.length) k, ?_, ?_, ?_, ?_, ?_⟩
  · intro i R hR
    cases i with
    | zero =>
      simp only [List.getElem?_cons_zero, Option.some.injEq] at hR
      subst hR
      refine ⟨fun i k => i < A.length ∧ O i k, fun i k => i < A.length ∧ S i k, fun i R hR => ?_, fun i k hk => ⟨i, hk⟩, fun i k hk => ⟨i, hk⟩, fun i j k hi hj => h4 i j k hi.2 hj.2, fun i j k hi hj => h5 i j k hi.2 hj.2⟩
      have hi := (List.getElem?_eq_some_iff.1 hR).1
      have e1 : (fun k => i < A.length ∧ O i k) = O i := by funext k; exact propext ⟨fun h => h.2, fun h => ⟨hi, h⟩⟩
      have e2 : (fun k => i < A.length ∧ S i k) = S i := by funext k; exact propext ⟨fun h => h.2, fun h => ⟨hi, h⟩⟩
      show R.holds w (fun k => i < A.length ∧ O i k) (fun k => i < A.length ∧ S i k)
      rw [e1, e2]
      exact h1 i R (by rw [List.getElem?_append_left hi]; exact hR)
    | succ i => exact h1 (i + A.length) R (by rw [List.getElem?_append_right (by omega), Nat.add_sub_cancel]; simpa using hR)
  · intro i k hk
    cases i with
    | zero => obtain ⟨j, _, hj⟩ := hk; exact h2 j k hj
    | succ i => exact h2 _ k hk
  · intro i k hk
    cases i with
    | zero => obtain ⟨j, _, hj⟩ := hk; exact h3 j k hj
    | succ i => exact h3 _ k hk
  · intro i j k hi hj
    cases i <;> cases j
    · rfl
    · obtain ⟨a, ha, hk⟩ := hi
      have := h4 _ _ k hk hj
      omega
    · obtain ⟨a, ha, hk⟩ := hj
      have := h4 _ _ k hi hk
      omega
    · have := h4 _ _ k hi hj
      omega
  · intro i j k hi hj
    cases i <;> cases j
    · obtain ⟨a, ha, hk⟩ := hi
      obtain ⟨b, hb', hk'⟩ := hj
      exact h5 _ _ k hk hk'
    · obtain ⟨a, ha, hk⟩ := hi
      exact h5 _ _ k hk hj
    · obtain ⟨b, hb', hk'⟩ := hj
      exact h5 _ _ k hi hk'
    · exact h5 _ _ k hi hj
theorem Lies.grown1 {α : Type} {d : Kd α} {e : TypeId} {v : Value} {xs : List α} (h : Lies w0 w (.row d e v xs :: L)) : ∃ ok : Nat → Prop, d.R e w 0 ok v xs ∧ (∀ k, w.heap.size ≤ k → ok k) ∧
    ∀ {v1 : Value} {w1 : World} {xs1 : List α}, d.R e w1 0 ok v1 xs1 → w.grownBy w1 v.ownBlock → Lies w0 w1 (.row d e v1 xs1 :: L) := by
  obtain ⟨O, S, hr, h2, h3, h4, h5⟩ := h.step
  have hr : d.R e w 0 O v xs := hr
  refine ⟨fun k => O k ∨ w.heap.size ≤ k, Kd.R_mono hr (fun _ h => .inl h), fun _ h => .inr h, ?_⟩
  intro v1 w1 xs1 hr1 hg
  refine h5 (O' := fun k => (O k ∨ w.heap.size ≤ k) ∧ k < w1.heap.size) (S' := fun _ => False) ((Turn.grown hg).mono (fun k hk => hr.1 k (Eq.symm hk))) (Kd.R_mono (Kd.R_bound hr1) (fun k hk => ⟨hk.1, hk.2.2.1⟩)) (fun k hk => hk.1.imp id (fun h => ⟨h, hk.2⟩)) (fun _ h => h.elim) (fun _ _ h => h)
end
end Go.Proofs.Ytlbfpjhnpnbikaa.X
