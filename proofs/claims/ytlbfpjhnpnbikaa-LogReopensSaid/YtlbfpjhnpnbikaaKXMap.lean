/- XFoot XTear XKeep XMap: what this claim uses. Laid by slim.py (ours). -/
import Derived.Test.YtlbfpjhnpnbikaaKXNest
import Derived.Test.YtlbfpjhnpnbikaaKXDisk2
import Derived.Maps.OwnSet
import Derived.Maps.OwnOps
import Derived.Maps.RangeWalk
section
namespace Go.Proofs.Ytlbfpjhnpnbikaa.X
set_option linter.unusedVariables false
open Go Go.RowKit
open Go.Proofs.YtlbfpjhnpnbikaaW.PrintWords
def Ft (P : World → Prop) (w : World) (S : Nat → Prop) : Prop := ∀ w' : World, (∀ k, S k → w'.heap[k]? = w.heap[k]?) → w.heap.size ≤ w'.heap.size → P w'
section
variable {P Q : World → Prop} {w w' : World} {S S' : Nat → Prop}
theorem Ft.now (h : Ft P w S) : P w := h w (fun _ _ => rfl) (Nat.le_refl _)
theorem Ft.mono (h : Ft P w S) (hs : ∀ k, S k → S' k) : Ft P w S' := fun w' h1 h2 => h w' (fun k hk => h1 k (hs k hk)) h2
theorem Ft.imp (h : Ft P w S) (hi : ∀ w', P w' → Q w') : Ft Q w S := fun w' h1 h2 => hi w' (h w' h1 h2)
theorem Ft.move (h : Ft P w S) (hm : ∀ k, S k → w'.heap[k]? = w.heap[k]?) (hs : w.heap.size ≤ w'.heap.size) : Ft P w' S := fun w'' h1 h2 => h w'' (fun k hk => (h1 k hk).trans (hm k hk)) (Nat.le_trans hs h2)
end
def Res.ft (P : World → Prop) : Res := ⟨fun w O S => Ft P w S, fun h hm hs => Ft.move h (fun k hk => hm k (.inr hk)) hs⟩
section
variable {w0 w w' : World} {L : List Res} {R : Res} {P Q : World → Prop}
theorem Lies.read (h : Lies w0 w L) (i : Nat) (hi : L[i]? = some (.ft P)) : P w := by
  obtain ⟨O, S, hb⟩ := h.at i hi
  exact Ft.now hb
theorem Rd.ft (i : Nat) (hi : L[i]? = some (.ft P)) : Rd w0 L P := fun w' h => h.read i hi
theorem Lies.freeze (h : Lies w0 w (R :: L)) (hR : ∀ w O S, R.holds w O S → P w) : Lies w0 w (.ft P :: L) := by
  obtain ⟨hb, O, S, h1, h2, h3, h4, h5⟩ := h
  refine ⟨hb, fun i k => match i with | 0 => False | i + 1 => O (i + 1) k, fun i k => match i with | 0 => O 0 k ∨ S 0 k | i + 1 => S (i + 1) k, ?_, ?_, ?_, ?_, ?_⟩
  · intro i R2 hR2
    cases i with
    | zero =>
      simp only [List.getElem?_cons_zero, Option.some.injEq] at hR2
      subst hR2
      exact fun w' k1 k2 => hR w' (O 0) (S 0) (R.move (h1 0 R rfl) k1 k2)
    | succ i => exact h1 (i + 1) R2 (by simpa using hR2)
  · intro i k hk
    cases i with
    | zero => exact hk.elim
    | succ i => exact h2 _ k hk
  · intro i k hk
    cases i with
    | zero => exact hk.elim (fun h => (h2 0 k h).2) (h3 0 k)
    | succ i => exact h3 _ k hk
  · intro i j k hi hj
    cases i with
    | zero => exact hi.elim
    | succ i =>
      cases j with
      | zero => exact hj.elim
      | succ j => exact h4 _ _ k hi hj
  · intro i j k hi hj
    cases i with
    | zero => exact hi.elim
    | succ i =>
      cases j with
      | zero => exact hj.elim (fun h => absurd (h4 _ _ k hi h) (by omega)) (h5 _ _ k hi)
      | succ j => exact h5 _ _ k hi hj
theorem Lies.came (h : Lies w0 w L) (hP : ∀ w' : World, (∀ k, k < w0.heap.size → w'.heap[k]? = w0.heap[k]?) → P w') : Lies w0 w (.ft P :: L) := by
  obtain ⟨hb, O, S, h1, h2, h3, h4, h5⟩ := h
  refine ⟨hb, fun i k => match i with | 0 => False | i + 1 => O i k, fun i k => match i with | 0 => k < w0.heap.size | i + 1 => S i k, ?_, ?_, ?_, ?_, ?_⟩
  · intro i R2 hR2
    cases i with
    | zero =>
      simp only [List.getElem?_cons_zero, Option.some.injEq] at hR2
      subst hR2
      exact fun w' k1 _ => hP w' (fun k hk => (k1 k hk).trans (hb.block k hk))
    | succ i => exact h1 i R2 (by simpa using hR2)
  · intro i k hk
    cases i with
    | zero => exact hk.elim
    | succ i => exact h2 _ k hk
  · intro i k hk
    cases i with
    | zero => exact Nat.lt_of_lt_of_le hk hb.size
    | succ i => exact h3 _ k hk
  · intro i j k hi hj
    cases i with
    | zero => exact hi.elim
    | succ i =>
      cases j with
      | zero => exact hj.elim
      | succ j => exact congrArg _ (h4 _ _ k hi hj)
  · intro i j k hi hj
    cases i with
    | zero => exact hi.elim
    | succ i =>
      cases j with
      | zero => exact absurd (h2 _ k hi).1 (by have : k < w0.heap.size := hj; omega)
      | succ j => exact h5 _ _ k hi hj
end
def Res.rows {α : Type} (d : Kd α) (e : TypeId) (v : Value) (xs : List α) : Res := ⟨fun w O S => ∃ cells : List (List Value), (Kd.raw d.sz).R e w 0 O v cells ∧ cells.length = xs.length ∧ ∀ (k : Nat) (x : α) (c : List Value), xs[k]? = some x → cells[k]? = some c → Ft (fun w' => d.K w' x c) w S, fun {w w' O S} h hm hs => by
  obtain ⟨cells, h1, h2, h3⟩ := h
  exact ⟨cells, Kd.R_move h1 (fun k hk => hm k (.inl hk)), h2, fun k x c hx hc => (h3 k x c hx hc).move (fun k hk => hm k (.inr hk)) hs⟩⟩
section
variable {α : Type} {d : Kd α} {e : TypeId} {v : Value} {xs : List α} {x : α} {w0 w w' : World} {L : List Res}
theorem Lies.rnil (h : Lies w0 w L) : Lies w0 w (.rows d e (.slice none 0 0) [] :: L) :=
  h.new (O := fun _ => False) (S := fun _ => False) (Below.refl _ _) ⟨[], Kd.R_nil _ _ _ _ _, rfl, fun k x c hx _ => by simp at hx⟩ (fun _ h => h.elim) (fun _ h => h.elim) (fun _ h => h.elim)
theorem Lies.rform (h : Lies w0 w L) (i : Nat) (hi : L[i]? = some (.rows d e v xs)) : ∃ A c, v = .slice A xs.length c ∧ xs.length ≤ c ∧ d.C w A xs.length xs ∧ (0 < xs.length → ∃ g, A = some ⟨g, 0, none⟩) := by
  obtain ⟨O, S, cells, h1, h2, h3⟩ := h.at i hi
  have key : ∀ {A : Option Addr} {c : Nat}, v = .slice A xs.length c → xs.length ≤ c → (Kd.raw d.sz).C w A cells.length cells → d.C w A xs.length xs := by
    intro A c e1 e2 hC
    refine ⟨rfl, by have := hC.2.1; omega, fun h0 => ?_⟩
    obtain ⟨ad, e3, hc⟩ := hC.2.2 (by omega)
    refine ⟨ad, e3, fun j p hj => ?_⟩
    have hlt : j < cells.length := by have := (List.getElem?_eq_some_iff.1 hj).1; omega
    have hcj := List.getElem?_eq_getElem hlt
    obtain ⟨cs, g1, g2, g3⟩ := hc j _ hcj
    have e4 : cs = cells[j] := g2.1
    subst e4
    exact ⟨_, g1, (h3 j p _ hj hcj).now, g3⟩
  rcases Nat.eq_zero_or_pos xs.length with h0 | h0
  · obtain ⟨A, c, e1, hc, hC⟩ := Kd.R_reads h1
    rw [h2] at e1 hc
    exact ⟨A, c, e1, hc, key e1 hc hC, fun h => absurd h (by omega)⟩
  · obtain ⟨g, c, e1, -⟩ := Kd.R_form h1 (by omega)
    rw [e1] at h1
    have hr := Kd.R_reads' h1
    rw [h2] at e1 hr
    have hc : xs.length ≤ c := hr.2.1
    have hC := hr.2.2
    rw [← h2] at hC
    exact ⟨_, c, e1, hc, key e1 hc hC, fun _ => ⟨g, rfl⟩⟩
theorem Lies.rget {g n c i : Nat} (h : Lies w0 w (.rows d e (.slice (some ⟨g, 0, none⟩) n c) xs :: L)) (hx : xs[i]? = some x) : ∃ cs : List Value, w.rangeAt g (i * d.sz) cs ∧ cs.length = d.sz ∧ Lies w0 w (.ft (fun w' => d.K w' x cs) :: .rows d e (.slice (some ⟨g, 0, none⟩) n c) xs :: L) := by
  obtain ⟨hb, O, S, h1, h2, h3, h4, h5⟩ := h
  obtain ⟨cells, g1, g2, g3⟩ := h1 0 _ rfl
  have hlt : i < cells.length := by have := (List.getElem?_eq_some_iff.1 hx).1; omega
  have hci := List.getElem?_eq_getElem hlt
  have hn : n = cells.length := (Kd.R_reads' g1).1
  obtain ⟨cs, hl, hM, hc, _⟩ := Kd.R_elem g1 [] (i : Int) (by omega) (by omega)
  rw [Int.toNat_natCast, List.getD_eq_getElem?_getD, hci] at hM
  rw [Int.toNat_natCast, show (Kd.raw d.sz).sz = d.sz from rfl] at hc
  have hcs : cs = cells[i] := hM.1
  subst hcs
  refine ⟨_, fun j u hu => hc j u hu, hl, hb, fun i k => match i with | 0 => False | i + 1 => O i k, fun i k => match i with | 0 => S 0 k | i + 1 => S i k, ?_, ?_, ?_, ?_, ?_⟩
  · intro j R2 hR2
    cases j with
    | zero => simp only [List.getElem?_cons_zero, Option.some.injEq] at hR2; subst hR2; exact g3 i x _ hx hci
    | succ j => exact h1 j R2 (by simpa using hR2)
  · intro j k hk
    cases j with
    | zero => exact hk.elim
    | succ j => exact h2 _ k hk
  · intro j k hk
    cases j with
    | zero => exact h3 0 k hk
    | succ j => exact h3 _ k hk
  · intro a b k ha hc2
    cases a with
    | zero => exact ha.elim
    | succ a =>
      cases b with
      | zero => exact hc2.elim
      | succ b => exact congrArg _ (h4 _ _ k ha hc2)
  · intro a b k ha hc2
    cases a with
    | zero => exact ha.elim
    | succ a =>
      cases b with
      | zero => exact h5 _ _ k ha hc2
      | succ b => exact h5 _ _ k ha hc2
theorem Lies.radd {c : List Value} (h : Lies w0 w (.rows d e v xs :: .ft (fun w' => d.K w' x c) :: L)) : ∃ (cells : List (List Value)) (ok : Nat → Prop), (Kd.raw d.sz).R e w 0 ok v cells ∧ cells.length = xs.length ∧ (∀ k, w.heap.size ≤ k → ok k) ∧
    ∀ {v1 : Value} {w1 : World}, (Kd.raw d.sz).R e w1 0 ok v1 (cells ++ [c]) → w.grownBy w1 v.ownBlock → Lies w0 w1 (.rows d e v1 (xs ++ [x]) :: L) := by
  obtain ⟨O, S, ⟨Of, Sf, g1, g2, g3, g4, g5⟩, h2, h3, h4, h5⟩ := (Lies.close [.rows d e v xs, .ft (fun w' => d.K w' x c)] h).step
  obtain ⟨cells, r1, r2, r3⟩ := g1 0 _ rfl
  have hf : Ft (fun w' => d.K w' x c) w (Sf 1) := g1 1 _ rfl
  refine ⟨cells, fun k => Of 0 k ∨ w.heap.size ≤ k, Kd.R_mono r1 (fun _ h => .inl h), r2, fun _ h => .inr h, ?_⟩
  intro v1 w1 hr hg
  have hbk : ∀ k, k < w.heap.size → ¬ Of 0 k → w1.heap[k]? = w.heap[k]? := fun k hk hn => hg.block k hk (fun e => hn (r1.1 k e.symm))
  have hS : ∀ i k, Sf i k → w1.heap[k]? = w.heap[k]? := fun i k hk => hbk k (h3 k (g3 i k hk)) (fun ho => g5 0 i k ho hk)
  refine h5 (R' := .rows d e v1 (xs ++ [x])) (O' := fun k => (Of 0 k ∨ w.heap.size ≤ k) ∧ k < w1.heap.size) (S' := fun k => Sf 0 k ∨ Sf 1 k) ((Turn.grown hg).mono (fun k hk => g2 0 k (r1.1 k (Eq.symm hk)))) ?_ (fun k hk => hk.1.imp (g2 0 k) (fun h => ⟨h, hk.2⟩)) (fun k hk => .inl (hk.elim (g3 0 k) (g3 1 k))) ?_
  · refine ⟨cells ++ [c], Kd.R_mono (Kd.R_bound hr) (fun k hk => ⟨hk.1, hk.2.2.1⟩), by rw [List.length_append, List.length_append, r2]; rfl, fun k y cs hk hcs => ?_⟩
    by_cases hlt : k < xs.length
    · rw [List.getElem?_append_left hlt] at hk
      rw [List.getElem?_append_left (by omega)] at hcs
      exact ((r3 k y cs hk hcs).move (hS 0) hg.size).mono (fun k hk => .inl hk)
    · rw [List.getElem?_append_right (by omega)] at hk
      rw [List.getElem?_append_right (by omega)] at hcs
      have hk0 : k - xs.length = 0 := by
        rcases Nat.eq_zero_or_pos (k - xs.length) with h | h
        · exact h
        · rw [List.getElem?_eq_none (by simp; omega)] at hk
          cases hk
      rw [hk0] at hk
      rw [show k - cells.length = 0 from by omega] at hcs
      simp only [List.getElem?_cons_zero, Option.some.injEq] at hk hcs
      subst hk hcs
      exact (hf.move (hS 1) hg.size).mono (fun k hk => .inr hk)
  · intro k hk hk2
    rcases hk.1 with h | h
    · exact hk2.elim (g5 0 0 k h) (g5 0 1 k h)
    · exact absurd (hk2.elim (fun h => h3 k (g3 0 k h)) (fun h => h3 k (g3 1 k h))) (by omega)
end
end Go.Proofs.Ytlbfpjhnpnbikaa.X
end
section
namespace Go.Proofs.Ytlbfpjhnpnbikaa.X
open Go Go.RowKit
theorem lay_get {xs ys : List Int} {j : Nat} (h : j + ys.length ≤ xs.length) (i : Nat) : (lay xs j ys)[i]? = if j ≤ i ∧ i < j + ys.length then ys[i - j]? else xs[i]? := by
  unfold lay
  by_cases h1 : i < j
  · rw [if_neg (by omega), List.getElem?_append_left (by rw [List.length_take]; omega), List.getElem?_take, if_pos h1]
  · rw [List.getElem?_append_right (by rw [List.length_take]; omega), List.length_take, Nat.min_eq_left (by omega)]
    by_cases h2 : i < j + ys.length
    · rw [if_pos ⟨by omega, h2⟩, List.getElem?_append_left (by omega)]
    · rw [if_neg (by omega), List.getElem?_append_right (by omega), List.getElem?_drop]
      congr 1
      omega
end Go.Proofs.Ytlbfpjhnpnbikaa.X
end
section
namespace Go.Proofs.Ytlbfpjhnpnbikaa.X
open Go Go.RowKit
def blk (b : List Int) (i : Nat) : List Int := (b.take (256 * i + 256)).drop (256 * i)
theorem blk_get (b : List Int) (i k : Nat) : (blk b i)[k]? = if k < 256 then b[256 * i + k]? else none := by
  unfold blk
  rw [List.getElem?_drop, List.getElem?_take]
  by_cases h : k < 256
  · rw [if_pos (by omega), if_pos h]
  · rw [if_neg (by omega), if_neg h]
theorem blk_lay {n : Nat} {b : List Int} {x : Nat × List Int} (hb : b.length = 256 * n) (hx : WOk n x) (i : Nat) : blk (lay b (256 * x.1) x.2) i = if i = x.1 then x.2 else blk b i := by
  have h1 := hx.1
  have h2 := hx.2.1
  have hg := fun k => lay_get (xs := b) (ys := x.2) (j := 256 * x.1) (by omega) k
  by_cases hi : i = x.1
  · rw [if_pos hi]
    apply List.ext_getElem?
    intro k
    rw [blk_get, hg]
    by_cases hk : k < 256
    · rw [if_pos hk, if_pos (by omega)]
      congr 1
      omega
    · rw [if_neg hk, List.getElem?_eq_none (by omega)]
  · rw [if_neg hi]
    apply List.ext_getElem?
    intro k
    rw [blk_get, blk_get, hg]
    by_cases hk : k < 256
    · rw [if_pos hk, if_pos hk, if_neg (by omega)]
    · rw [if_neg hk, if_neg hk]
theorem lastD_cons (x : Nat × List Int) (l : List (Nat × List Int)) (i : Int) : lastD (x :: l) i = (lastD l i).or (if i = (x.1 : Int) then some x.2 else none) := by
  unfold lastD
  rw [List.reverse_cons, List.find?_append]
  cases l.reverse.find? (fun p => decide ((p.1 : Int) = i)) with
  | some y => rfl
  | none =>
    simp only [Option.none_or, Option.map_none, List.find?_cons, List.find?_nil]
    by_cases h : i = (x.1 : Int)
    · rw [if_pos h, decide_eq_true h.symm]
      rfl
    · rw [if_neg h, decide_eq_false (fun e => h e.symm)]
      rfl
theorem blk_lays {n : Nat} (i : Nat) : ∀ (l : List (Nat × List Int)) (b : List Int), b.length = 256 * n → u8all b = true → (∀ x ∈ l, WOk n x) → blk (laysTo b l) i = (lastD l (i : Int)).getD (blk b i)
  | [], b, _, _, _ => rfl
  | x :: l, b, hb, hu, hl => by
    have hx := hl x List.mem_cons_self
    have h1 := lay_ok hb hu hx
    have ih := blk_lays i l (lay b (256 * x.1) x.2) h1.1 h1.2 (fun y hy => hl y (List.mem_cons_of_mem _ hy))
    rw [show laysTo b (x :: l) = laysTo (lay b (256 * x.1) x.2) l from rfl, ih, blk_lay hb hx, lastD_cons]
    cases lastD l (i : Int) with
    | some y => rfl
    | none =>
      simp only [Option.none_or, Option.getD_none]
      by_cases h : i = x.1
      · rw [if_pos h, if_pos (by omega)]; rfl
      · rw [if_neg h, if_neg (by omega)]; rfl
theorem DS.read_eq (s : DS) (i : Nat) : s.read i = (lastD s.ghosts (i : Int)).getD ((lastD s.pend (i : Int)).getD (blk s.bytes i)) := rfl
theorem DS.read_flush {s : DS} {n : Nat} (h : s.Ok n) (i : Nat) : s.flush.read i = s.read i := by
  unfold DS.flush
  split
  · rfl
  · rw [DS.read_eq, DS.read_eq]
    show (lastD s.ghosts (i : Int)).getD ((lastD [] (i : Int)).getD (blk (laysTo s.bytes s.pend) i)) = _
    rw [blk_lays i s.pend s.bytes h.len h.u8 h.pend, lastD_nil, Option.getD_none]
theorem DS.read_write (s : DS) (j : Nat) (xs : List Int) (i : Nat) : (s.write j xs).read i = if i = j then (if s.blown = true then xs else (lastD s.ghosts (i : Int)).getD xs) else s.read i := by
  unfold DS.write DS.blown
  split
  · rename_i hb
    rw [DS.read_eq, DS.read_eq]
    show (lastD (s.ghosts ++ [(j, xs)]) (i : Int)).getD ((lastD s.pend (i : Int)).getD (blk s.bytes i)) = _
    rw [lastD_snoc]
    by_cases h : i = j
    · rw [if_pos h, if_pos (show (i : Int) = ((j, xs).1 : Int) from by rw [h])]; rfl
    · rw [if_neg h, if_neg (show ¬ (i : Int) = ((j, xs).1 : Int) from fun e => h (Int.ofNat.inj e))]
  · rename_i hb
    rw [DS.read_eq, DS.read_eq]
    show (lastD s.ghosts (i : Int)).getD ((lastD (s.pend ++ [(j, xs)]) (i : Int)).getD (blk s.bytes i)) = _
    rw [lastD_snoc]
    by_cases h : i = j
    · rw [if_pos h, if_pos (show (i : Int) = ((j, xs).1 : Int) from by rw [h])]; rfl
    · rw [if_neg h, if_neg (show ¬ (i : Int) = ((j, xs).1 : Int) from fun e => h (Int.ofNat.inj e))]
theorem DS.flush_pend (s : DS) : s.flush.pend.length ≤ s.pend.length := by
  unfold DS.flush
  split
  · exact Nat.le_refl _
  · exact Nat.zero_le _
theorem DS.write_pend (s : DS) (j : Nat) (xs : List Int) : (s.write j xs).pend.length ≤ s.pend.length + 1 := by
  unfold DS.write
  split
  · exact Nat.le_succ _
  · exact Nat.le_of_eq (by rw [List.length_append, List.length_singleton])
end Go.Proofs.Ytlbfpjhnpnbikaa.X
end
section
namespace Go.Proofs.Ytlbfpjhnpnbikaa.X
open Go Go.Maps Go.WideShapes
def keyset (u : DataW Unit) (l : List Int) : DataW Unit := setOf u (l.map (Lit.int .i64))
theorem keyset_snoc (u : DataW Unit) (l : List Int) (b : Int) : keyset u (l ++ [b]) = (keyset u l).put (.int .i64 b) u := by
  unfold keyset
  rw [List.map_append]
  exact setOf_snoc u _ _
theorem keys_are (l : List Int) : ∀ x ∈ l.map (Lit.int .i64), WideAt.IsKeyLit x := by
  intro x hx
  obtain ⟨b, _, rfl⟩ := List.mem_map.1 hx
  trivial
theorem key_any (l : List Int) (b : Int) : (l.map (Lit.int .i64)).any (fun x => x.sameKey (.int .i64 b)) = decide (b ∈ l) := by
  rw [Bool.eq_iff_iff, List.any_eq_true, decide_eq_true_eq]
  constructor
  · rintro ⟨x, hx, hs⟩
    obtain ⟨c, hc, rfl⟩ := List.mem_map.1 hx
    have := WideAt.sameKey_eq hs
    injection this with _ h
    rw [← h]
    exact hc
  · intro h
    exact ⟨_, List.mem_map.2 ⟨b, h, rfl⟩, WideAt.sameKey_self trivial⟩
theorem keyset_has (u : DataW Unit) (l : List Int) (b : Int) : Maps.has (keyset u l) (.int .i64 b) = decide (b ∈ l) := by
  unfold keyset
  rw [has_setOf u _ _ (keys_are l), key_any]
theorem atKey_fold (u z : DataW Unit) (k : Lit) (hk : WideAt.IsKeyLit k) : ∀ (acc : List Lit) (m : DataW Unit), IsMap m → (acc.foldl (fun m x => m.put x u) m).atKey k z = if acc.any (fun x => x.sameKey k) then u else m.atKey k z
  | [], m, _ => rfl
  | x :: r, m, hm => by
    rw [List.foldl_cons, atKey_fold u z k hk r (m.put x u) (hm.put x u), List.any_cons]
    by_cases e : k = x
    · subst e
      rw [atKey_put_same hm hk, WideAt.sameKey_self hk]
      simp
    · rw [atKey_put_other e, sameKey_ne (fun e' => e e'.symm)]
      simp
theorem keyset_at (u z : DataW Unit) (l : List Int) (b : Int) : (keyset u l).atKey (.int .i64 b) z = if b ∈ l then u else z := by
  unfold keyset setOf
  rw [atKey_fold u z (.int .i64 b) trivial _ _ isMap_empty, key_any]
  by_cases h : b ∈ l
  · rw [if_pos (by simpa using h), if_pos h]
  · rw [if_neg (by simpa using h), if_neg h]
    rfl
theorem keyset_size (u : DataW Unit) (n : Nat) : ∀ l : List Int, l.length = n → Maps.size (keyset u l) ≤ l.length ∧ (Maps.size (keyset u l) = l.length ↔ l.Nodup) := by
  induction n with
  | zero =>
    intro l hl
    rw [List.length_eq_zero_iff.1 hl]
    exact ⟨Nat.le_refl _, fun _ => List.nodup_nil, fun _ => rfl⟩
  | succ n ih =>
    intro l hl
    obtain ⟨r, b, rfl⟩ : ∃ r b, l = r ++ [b] := by
      rcases List.eq_nil_or_concat l with h | ⟨r, b, h⟩
      · rw [h] at hl
        simp at hl
      · exact ⟨r, b, by rw [h, List.concat_eq_append]⟩
    rw [List.length_append, List.length_singleton] at hl
    obtain ⟨h1, h2⟩ := ih r (by omega)
    have hsz := size_put (D := keyset u r) (k := .int .i64 b) (tidy_setOf u _ (keys_are r)) u
    rw [keyset_snoc, hsz, keyset_has, List.length_append, List.length_singleton]
    rw [List.nodup_append]
    by_cases hb : b ∈ r
    · rw [if_pos (by simpa using hb)]
      refine ⟨by omega, fun h => by omega, fun h => ?_⟩
      exact absurd rfl (h.2.2 b hb b (List.mem_singleton.2 rfl))
    · rw [if_neg (by simpa using hb)]
      refine ⟨by omega, fun h => ⟨h2.1 (by omega), List.nodup_cons.2 ⟨by simp, List.nodup_nil⟩, fun x hx y hy e => ?_⟩, fun h => by rw [h2.2 h.1]⟩
      rw [List.mem_singleton.1 hy] at e
      exact hb (e ▸ hx)
theorem next_iu {H : Type} {P : Program} (w : World) {ops : Array Oper} {rest : List Oper} {o : Oper} {a : Act} {Q : Exit → Act → World → Prop} (hg : o.guard = none) (it : Operand) (hop : o.op = Op.next it false) (k : TypeId) (qk : IntKind) (K : Keyed P k) (hk : P.underlying k = some (.int qk))
    (b r n : Nat) (D : DataW H) (left : Lit → Bool) (cnt : Nat) (hit : a.eval it = .pointer (some ⟨r, 0, none⟩)) (h : w.ranges P k unitElem b r n D left cnt)
    (hDone : (∀ kl, left kl = false) → wpList P ops Q rest (a.put o.dst (.tuple #[.bool false])) w)
    (hMore : ∀ (x : Int) (w' : World) (cnt' : Nat), Maps.has D (.int qk x) = true → w'.ranges P k unitElem b r n D (fun z => left z && !z.sameKey (.int qk x)) cnt' → cnt' < cnt →
      w.grownBy w' (some r) → (Instr.entry (.pointer (some ⟨r, 0, none⟩))).run P w' = .ok (.tuple #[.int qk x, .agg #[]]) w' → wpList P ops Q rest (a.put o.dst (.tuple #[.bool true, .int qk x, .agg #[]])) w') :
    wpList P ops Q (o :: rest) a w :=
  wpList_next_ranges w hg it hop k K unitElem (Value.int qk) (fun _ : Unit => Value.agg #[]) (fun key kl hkey => by obtain ⟨x, rfl, _⟩ := Maps.keyOf_int_inv hk hkey; exact ⟨x, rfl⟩) (fun v y hv => by obtain ⟨rfl, _⟩ := unitElem_inv hv; exact ⟨(), rfl⟩)
    b r n D left cnt hit h (fun _ => hDone) (fun x c kl y w' cnt' hkey hlk hv hat hrg hlt hgr hsz hen => by
      obtain ⟨x', ex, rfl, hwx⟩ := Maps.keyOf_int_inv hk hkey
      cases ex
      exact hMore x w' cnt' (has_true_of_atKey hat) hrg hlt hgr hen)
end Go.Proofs.Ytlbfpjhnpnbikaa.X
end
