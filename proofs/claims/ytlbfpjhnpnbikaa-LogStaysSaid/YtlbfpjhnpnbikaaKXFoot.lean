/- XFoot: what this claim uses. Laid by slim.py (ours). -/
import Derived.Test.YtlbfpjhnpnbikaaKXNest
namespace Go.Proofs.Ytlbfpjhnpnbikaa.X
set_option linter.unusedVariables false
open Go Go.RowKit
open Go.Proofs.YtlbfpjhnpnbikaaW.PrintWords
def Ft (P : World → Prop) (w : World) (S : Nat → Prop) : Prop := ∀ w' : World, (∀ k, S k → w'.heap[k]? = w.heap[k]?) → w.heap.size ≤ w'.heap.size → P w'
section
variable {P Q : World → Prop} {w w' : World} {S S' : Nat → Prop}
theorem Ft.now (h : Ft P w S) : P w := h w (fun _ _ => rfl) (Nat.le_refl _)
theorem Ft.mono (h : Ft P w S) (hs : ∀ k, S k → S' k) : Ft P w S' := fun w' h1 h2 => h w' (fun k hk => h1 k (hs k hk)) h2
theorem Ft.imp (h : Ft P w S) (hi : ∀ w', P w' → Q w') : Ft Q w S := fun w' h1 h2 => hi w' (h w' h1 h2)
theorem Ft.move (h : Ft P w S) (hm : ∀ k, S k → w'.heap[k]? = w.heap[k]?) (hs : w.heap.size ≤ w'.heap.size) : Ft P w' S := fun w'' h1 h2 => h w'' (fun k hk => (h1 k hk).trans (hm k hk)) (Nat.le_trans hs h2)
end
def Res.ft (P : World → Prop) : Res := ⟨fun w O S => Ft P w S, fun h hm hs => Ft.move h (fun k hk => hm k (.inr hk)) hs⟩
section
variable {w0 w w' : World} {L : List Res} {R : Res} {P Q : World → Prop}
theorem Lies.read (h : Lies w0 w L) (i : Nat) (hi : L[i]? = some (.ft P)) : P w := by
  obtain ⟨O, S, hb⟩ := h.at i hi
  exact Ft.now hb
theorem Rd.ft (i : Nat) (hi : L[i]? = some (.ft P)) : Rd w0 L P := fun w' h => h.read i hi
theorem Lies.freeze (h : Lies w0 w (R :: L)) (hR : ∀ w O S, R.holds w O S → P w) : Lies w0 w (.ft P :: L) := by
  obtain ⟨hb, O, S, h1, h2, h3, h4, h5⟩ := h
  refine ⟨hb, fun i k => match i with | 0 => False | i + 1 => O (i + 1) k, fun i k => match i with | 0 => O 0 k ∨ S 0 k | i + 1 => S (i + 1) k, ?_, ?_, ?_, ?_, ?_⟩
  · intro i R2 hR2
    cases i with
    | zero =>
      simp only [List.getElem?_cons_zero, Option.some.injEq] at hR2
      subst hR2
      exact fun w' k1 k2 => hR w' (O 0) (S 0) (R.move (h1 0 R rfl) k1 k2)
    | succ i => exact h1 (i + 1) R2 (by simpa using hR2)
  · intro i k hk
    cases i with
    | zero => exact hk.elim
    | succ i => exact h2 _ k hk
  · intro i k hk
    cases i with
    | zero => exact hk.elim (fun h => (h2 0 k h).2) (h3 0 k)
    | succ i => exact h3 _ k hk
  · intro i j k hi hj
    cases i with
    | zero => exact hi.elim
    | succ i =>
      cases j with
      | zero => exact hj.elim
      | succ j => exact h4 _ _ k hi hj
  · intro i j k hi hj
    cases i with
    | zero => exact hi.elim
    | succ i =>
      cases j with
      | zero => exact hj.elim (fun h => absurd (h4 _ _ k hi h) (by omega)) (h5 _ _ k hi)
      | succ j => exact h5 _ _ k hi hj
theorem Lies.came (h : Lies w0 w L) (hP : ∀ w' : World, (∀ k, k < w0.heap.size → w'.heap[k]? = w0.heap[k]?) → P w') : Lies w0 w (.ft P :: L) := by
  obtain ⟨hb, O, S, h1, h2, h3, h4, h5⟩ := h
  refine ⟨hb, fun i k => match i with | 0 => False | i + 1 => O i k, fun i k => match i with | 0 => k < w0.heap.size | i + 1 => S i k, ?_, ?_, ?_, ?_, ?_⟩
  · intro i R2 hR2
    cases i with
    | zero =>
      simp only [List.getElem?_cons_zero, Option.some.injEq] at hR2
      subst hR2
      exact fun w' k1 _ => hP w' (fun k hk => (k1 k hk).trans (hb.block k hk))
    | succ i => exact h1 i R2 (by simpa using hR2)
  · intro i k hk
    cases i with
    | zero => exact hk.elim
    | succ i => exact h2 _ k hk
  · intro i k hk
    cases i with
    | zero => exact Nat.lt_of_lt_of_le hk hb.size
    | succ i => exact h3 _ k hk
  · intro i j k hi hj
    cases i with
    | zero => exact hi.elim
    | succ i =>
      cases j with
      | zero => exact hj.elim
      | succ j => exact congrArg _ (h4 _ _ k hi hj)
  · intro i j k hi hj
    cases i with
    | zero => exact hi.elim
    | succ i =>
      cases j with
      | zero => exact absurd (h2 _ k hi).1 (by have : k < w0.heap.size := hj; omega)
      | succ j => exact h5 _ _ k hi hj
end
def Res.rows {α : Type} (d : Kd α) (e : TypeId) (v : Value) (xs : List α) : Res := ⟨fun w O S => ∃ cells : List (List Value), (Kd.raw d.sz).R e w 0 O v cells ∧ cells.length = xs.length ∧ ∀ (k : Nat) (x : α) (c : List Value), xs[k]? = some x → cells[k]? = some c → Ft (fun w' => d.K w' x c) w S, fun {w w' O S} h hm hs => by
  obtain ⟨cells, h1, h2, h3⟩ := h
  exact ⟨cells, Kd.R_move h1 (fun k hk => hm k (.inl hk)), h2, fun k x c hx hc => (h3 k x c hx hc).move (fun k hk => hm k (.inr hk)) hs⟩⟩
section
variable {α : Type} {d : Kd α} {e : TypeId} {v : Value} {xs : List α} {x : α} {w0 w w' : World} {L : List Res}
theorem Lies.rnil (h : Lies w0 w L) : Lies w0 w (.rows d e (.slice none 0 0) [] :: L) :=
  h.new (O := fun _ => False) (S := fun _ => False) (Below.refl _ _) ⟨[], Kd.R_nil _ _ _ _ _, rfl, fun k x c hx _ => by simp at hx⟩ (fun _ h => h.elim) (fun _ h => h.elim) (fun _ h => h.elim)
theorem Lies.rform (h : Lies w0 w L) (i : Nat) (hi : L[i]? = some (.rows d e v xs)) : ∃ A c, v = .slice A xs.length c ∧ xs.length ≤ c ∧ d.C w A xs.length xs ∧ (0 < xs.length → ∃ g, A = some ⟨g, 0, none⟩) := by
  obtain ⟨O, S, cells, h1, h2, h3⟩ := h.at i hi
  have key : ∀ {A : Option Addr} {c : Nat}, v = .slice A xs.length c → xs.length ≤ c → (Kd.raw d.sz).C w A cells.length cells → d.C w A xs.length xs := by
    intro A c e1 e2 hC
    refine ⟨rfl, by have := hC.2.1; omega, fun h0 => ?_⟩
    obtain ⟨ad, e3, hc⟩ := hC.2.2 (by omega)
    refine ⟨ad, e3, fun j p hj => ?_⟩
    have hlt : j < cells.length := by have := (List.getElem?_eq_some_iff.1 hj).1; omega
    have hcj := List.getElem?_eq_getElem hlt
    obtain ⟨cs, g1, g2, g3⟩ := hc j _ hcj
    have e4 : cs = cells[j] := g2.1
    subst e4
    exact ⟨_, g1, (h3 j p _ hj hcj).now, g3⟩
  rcases Nat.eq_zero_or_pos xs.length with h0 | h0
  · obtain ⟨A, c, e1, hc, hC⟩ := Kd.R_reads h1
    rw [h2] at e1 hc
    exact ⟨A, c, e1, hc, key e1 hc hC, fun h => absurd h (by omega)⟩
  · obtain ⟨g, c, e1, -⟩ := Kd.R_form h1 (by omega)
    rw [e1] at h1
    have hr := Kd.R_reads' h1
    rw [h2] at e1 hr
    have hc : xs.length ≤ c := hr.2.1
    have hC := hr.2.2
    rw [← h2] at hC
    exact ⟨_, c, e1, hc, key e1 hc hC, fun _ => ⟨g, rfl⟩⟩
theorem Lies.radd {c : List Value} (h : Lies w0 w (.rows d e v xs :: .ft (fun w' => d.K w' x c) :: L)) : ∃ (cells : List (List Value)) (ok : Nat → Prop), (Kd.raw d.sz).R e w 0 ok v cells ∧ cells.length = xs.length ∧ (∀ k, w.heap.size ≤ k → ok k) ∧
    ∀ {v1 : Value} {w1 : World}, (Kd.raw d.sz).R e w1 0 ok v1 (cells ++ [c]) → w.grownBy w1 v.ownBlock → Lies w0 w1 (.rows d e v1 (xs ++ [x]) :: L) := by
  obtain ⟨O, S, ⟨Of, Sf, g1, g2, g3, g4, g5⟩, h2, h3, h4, h5⟩ := (Lies.close [.rows d e v xs, .ft (fun w' => d.K w' x c)] h).step
  obtain ⟨cells, r1, r2, r3⟩ := g1 0 _ rfl
  have hf : Ft (fun w' => d.K w' x c) w (Sf 1) := g1 1 _ rfl
  refine ⟨cells, fun k => Of 0 k ∨ w.heap.size ≤ k, Kd.R_mono r1 (fun _ h => .inl h), r2, fun _ h => .inr h, ?_⟩
  intro v1 w1 hr hg
  have hbk : ∀ k, k < w.heap.size → ¬ Of 0 k → w1.heap[k]? = w.heap[k]? := fun k hk hn => hg.block k hk (fun e => hn (r1.1 k e.symm))
  have hS : ∀ i k, Sf i k → w1.heap[k]? = w.heap[k]? := fun i k hk => hbk k (h3 k (g3 i k hk)) (fun ho => g5 0 i k ho hk)
  refine h5 (R' := .rows d e v1 (xs ++ [x])) (O' := fun k => (Of 0 k ∨ w.heap.size ≤ k) ∧ k < w1.heap.size) (S' := fun k => Sf 0 k ∨ Sf 1 k) ((Turn.grown hg).mono (fun k hk => g2 0 k (r1.1 k (Eq.symm hk)))) ?_ (fun k hk => hk.1.imp (g2 0 k) (fun h => ⟨h, hk.2⟩)) (fun k hk => .inl (hk.elim (g3 0 k) (g3 1 k))) ?_
  · refine ⟨cells ++ [c], Kd.R_mono (Kd.R_bound hr) (fun k hk => ⟨hk.1, hk.2.2.1⟩), by rw [List.length_append, List.length_append, r2]; rfl, fun k y cs hk hcs => ?_⟩
    by_cases hlt : k < xs.length
    · rw [List.getElem?_append_left hlt] at hk
      rw [List.getElem?_append_left (by omega)] at hcs
      exact ((r3 k y cs hk hcs).move (hS 0) hg.size).mono (fun k hk => .inl hk)
    · rw [List.getElem?_append_right (by omega)] at hk
      rw [List.getElem?_append_right (by omega)] at hcs
      have hk0 : k - xs.length = 0 := by
        rcases Nat.eq_zero_or_pos (k - xs.length) with h | h
        · exact h
        · rw [List.getElem?_eq_none (by simp; omega)] at hk
          cases hk
      rw [hk0] at hk
      rw [show k - cells.length = 0 from by omega] at hcs
      simp only [List.getElem?_cons_zero, Option.some.injEq] at hk hcs
      subst hk hcs
      exact (hf.move (hS 1) hg.size).mono (fun k hk => .inr hk)
  · intro k hk hk2
    rcases hk.1 with h | h
    · exact hk2.elim (g5 0 0 k h) (g5 0 1 k h)
    · exact absurd (hk2.elim (fun h => h3 k (g3 0 k h)) (fun h => h3 k (g3 1 k h))) (by omega)
end
end Go.Proofs.Ytlbfpjhnpnbikaa.X
