/- Plain laws of the abstract disk: what is read of a block behind a write, a flush, a settling. -/
import Derived.Test.YtbpkjkdbijifbaaXTear
namespace Go.Proofs.Ytbpkjkdbijifbaa.X
open Go Go.RowKit
/-- A block of a row of blocks. -/
def blk (b : List Int) (i : Nat) : List Int := (b.take (256 * i + 256)).drop (256 * i)
theorem blk_get (b : List Int) (i k : Nat) : (blk b i)[k]? = if k < 256 then b[256 * i + k]? else none := by
  unfold blk
  rw [List.getElem?_drop, List.getElem?_take]
  by_cases h : k < 256
  · rw [if_pos (by omega), if_pos h]
  · rw [if_neg (by omega), if_neg h]
theorem blk_lay {n : Nat} {b : List Int} {x : Nat × List Int} (hb : b.length = 256 * n) (hx : WOk n x) (i : Nat) : blk (lay b (256 * x.1) x.2) i = if i = x.1 then x.2 else blk b i := by
  have h1 := hx.1
  have h2 := hx.2.1
  have hg := fun k => lay_get (xs := b) (ys := x.2) (j := 256 * x.1) (by omega) k
  by_cases hi : i = x.1
  · rw [if_pos hi]
    apply List.ext_getElem?
    intro k
    rw [blk_get, hg]
    by_cases hk : k < 256
    · rw [if_pos hk, if_pos (by omega)]
      congr 1
      omega
    · rw [if_neg hk, List.getElem?_eq_none (by omega)]
  · rw [if_neg hi]
    apply List.ext_getElem?
    intro k
    rw [blk_get, blk_get, hg]
    by_cases hk : k < 256
    · rw [if_pos hk, if_pos hk, if_neg (by omega)]
    · rw [if_neg hk, if_neg hk]
theorem lastD_cons (x : Nat × List Int) (l : List (Nat × List Int)) (i : Int) : lastD (x :: l) i = (lastD l i).or (if i = (x.1 : Int) then some x.2 else none) := by
  unfold lastD
  rw [List.reverse_cons, List.find?_append]
  cases l.reverse.find? (fun p => decide ((p.1 : Int) = i)) with
  | some y => rfl
  | none =>
    simp only [Option.none_or, Option.map_none, List.find?_cons, List.find?_nil]
    by_cases h : i = (x.1 : Int)
    · rw [if_pos h, decide_eq_true h.symm]
      rfl
    · rw [if_neg h, decide_eq_false (fun e => h e.symm)]
      rfl
theorem blk_lays {n : Nat} (i : Nat) : ∀ (l : List (Nat × List Int)) (b : List Int), b.length = 256 * n → u8all b = true → (∀ x ∈ l, WOk n x) → blk (laysTo b l) i = (lastD l (i : Int)).getD (blk b i)
  | [], b, _, _, _ => rfl
  | x :: l, b, hb, hu, hl => by
    have hx := hl x List.mem_cons_self
    have h1 := lay_ok hb hu hx
    have ih := blk_lays i l (lay b (256 * x.1) x.2) h1.1 h1.2 (fun y hy => hl y (List.mem_cons_of_mem _ hy))
    rw [show laysTo b (x :: l) = laysTo (lay b (256 * x.1) x.2) l from rfl, ih, blk_lay hb hx, lastD_cons]
    cases lastD l (i : Int) with
    | some y => rfl
    | none =>
      simp only [Option.none_or, Option.getD_none]
      by_cases h : i = x.1
      · rw [if_pos h, if_pos (by omega)]; rfl
      · rw [if_neg h, if_neg (by omega)]; rfl
theorem DS.read_eq (s : DS) (i : Nat) : s.read i = (lastD s.ghosts (i : Int)).getD ((lastD s.pend (i : Int)).getD (blk s.bytes i)) := rfl
theorem DS.read_flush {s : DS} {n : Nat} (h : s.Ok n) (i : Nat) : s.flush.read i = s.read i := by
  unfold DS.flush
  split
  · rfl
  · rw [DS.read_eq, DS.read_eq]
    show (lastD s.ghosts (i : Int)).getD ((lastD [] (i : Int)).getD (blk (laysTo s.bytes s.pend) i)) = _
    rw [blk_lays i s.pend s.bytes h.len h.u8 h.pend, lastD_nil, Option.getD_none]
theorem DS.read_write (s : DS) (j : Nat) (xs : List Int) (i : Nat) : (s.write j xs).read i = if i = j then (if s.blown = true then xs else (lastD s.ghosts (i : Int)).getD xs) else s.read i := by
  unfold DS.write DS.blown
  split
  · rename_i hb
    rw [DS.read_eq, DS.read_eq]
    show (lastD (s.ghosts ++ [(j, xs)]) (i : Int)).getD ((lastD s.pend (i : Int)).getD (blk s.bytes i)) = _
    rw [lastD_snoc]
    by_cases h : i = j
    · rw [if_pos h, if_pos (show (i : Int) = ((j, xs).1 : Int) from by rw [h])]; rfl
    · rw [if_neg h, if_neg (show ¬ (i : Int) = ((j, xs).1 : Int) from fun e => h (Int.ofNat.inj e))]
  · rename_i hb
    rw [DS.read_eq, DS.read_eq]
    show (lastD s.ghosts (i : Int)).getD ((lastD (s.pend ++ [(j, xs)]) (i : Int)).getD (blk s.bytes i)) = _
    rw [lastD_snoc]
    by_cases h : i = j
    · rw [if_pos h, if_pos (show (i : Int) = ((j, xs).1 : Int) from by rw [h])]; rfl
    · rw [if_neg h, if_neg (show ¬ (i : Int) = ((j, xs).1 : Int) from fun e => h (Int.ofNat.inj e))]
theorem DS.read_other (s : DS) {i j : Nat} (h : i ≠ j) (xs : List Int) : (s.write j xs).read i = s.read i := by rw [DS.read_write, if_neg h]
/-- The newest write of a block that settles. -/
theorem newTo_some {l : List (Nat × List Int)} {bits : List Int} {i : Nat} : ∀ {k m : Nat}, newTo l bits k (i : Int) = some m → m < k ∧ ∃ x, l[m]? = some x ∧ x.1 = i
  | 0, m, h => by cases h
  | k + 1, m, h => by
    unfold newTo at h
    split at h
    · rename_i x hx
      split at h
      · split at h
        · rename_i hi
          injection h with h
          subst h
          exact ⟨Nat.lt_succ_self _, x, hx, (Int.ofNat.inj hi).symm⟩
        · have ih := newTo_some h
          exact ⟨by omega, ih.2⟩
      · have ih := newTo_some h
        exact ⟨by omega, ih.2⟩
    · have ih := newTo_some h
      exact ⟨by omega, ih.2⟩
theorem blk_settle {n : Nat} {b : List Int} {l : List (Nat × List Int)} (hb : b.length = 256 * n) (hu : u8all b = true) (hl : ∀ x ∈ l, WOk n x) (bits : List Int) (i : Nat) : ∀ k, blk (settleTo b l bits k) i = match newTo l bits k (i : Int) with
    | some m => ((l[m]?).map (·.2)).getD []
    | none => blk b i
  | 0 => rfl
  | k + 1 => by
    have ih := blk_settle hb hu hl bits i k
    unfold settleTo newTo
    cases hk : l[k]? with
    | none => exact ih
    | some x =>
      simp only
      by_cases hbit : bitAt bits k = true
      · rw [if_pos hbit, if_pos hbit, blk_lay (settleTo_ok hb hu hl bits k).1 (hl x (List.mem_of_getElem? hk))]
        by_cases hi : i = x.1
        · rw [if_pos hi, if_pos (show (i : Int) = (x.1 : Int) from by rw [hi])]
          simp only [hk]
          rfl
        · rw [if_neg hi, if_neg (show ¬ (i : Int) = (x.1 : Int) from fun e => hi (Int.ofNat.inj e))]
          exact ih
      · rw [if_neg hbit, if_neg hbit]
        exact ih
/-- What is left of a block's writes: the last one, if it is younger than the newest that settled. -/
def passes (N : Option Nat) (j : Nat) : Bool := match N with
  | none => true
  | some m => decide (m < j)
theorem left_last {l : List (Nat × List Int)} (bits : List Int) (i : Nat) : ∀ k, k ≤ l.length → lastD (leftTo l bits k) (i : Int) = match lastIdx (l.take k) (i : Int) with
    | some j => if passes (newTo l bits l.length (i : Int)) j = true then lastD (l.take k) (i : Int) else none
    | none => none
  | 0, _ => by rw [List.take_zero]; rfl
  | k + 1, hk => by
    have ih := left_last (l := l) bits i k (by omega)
    have hx := List.getElem?_eq_getElem (show k < l.length by omega)
    have ht := take_snoc hx
    unfold leftTo
    rw [hx, ht]
    generalize l[k] = x at *
    simp only
    rw [lastIdx_snoc, lastD_snoc, List.length_take, Nat.min_eq_left (by omega)]
    by_cases hi : (i : Int) = (x.1 : Int)
    · rw [if_pos hi, if_pos hi]
      have hst : staysB l bits k x = passes (newTo l bits l.length (i : Int)) k := by unfold staysB passes; rw [hi]; rfl
      rw [hst]
      simp only
      by_cases hp : passes (newTo l bits l.length (i : Int)) k = true
      · rw [if_pos hp, if_pos hp, lastD_snoc, if_pos hi]
      · rw [if_neg hp, if_neg hp, ih]
        cases hj : lastIdx (l.take k) (i : Int) with
        | none => rfl
        | some j =>
          simp only
          rw [if_neg]
          intro hq
          apply hp
          rcases lastIdx_at (i : Int) (l.take k).length (l.take k) rfl with ⟨e, _⟩ | ⟨j2, y, e, h2, _⟩
          · rw [e] at hj; cases hj
          · rw [e] at hj
            injection hj with hj
            subst hj
            have hlt := (List.getElem?_eq_some_iff.1 h2).1
            rw [List.length_take] at hlt
            revert hq
            unfold passes
            split
            · exact fun h => h
            · intro h
              have := of_decide_eq_true h
              exact decide_eq_true (by omega)
    · rw [if_neg hi, if_neg hi]
      by_cases hs : staysB l bits k x = true
      · rw [if_pos hs, lastD_snoc, if_neg hi]
        exact ih
      · rw [if_neg hs]
        exact ih
theorem last_most {l : List (Nat × List Int)} {i : Nat} {j m : Nat} {y : Nat × List Int} (h : lastIdx l (i : Int) = some j) (hy : l[m]? = some y) (hi : y.1 = i) (hlt : j < m) : False := by
  have key : ∀ (n : Nat) (l : List (Nat × List Int)), l.length = n → ∀ j m y, lastIdx l (i : Int) = some j → l[m]? = some y → y.1 = i → j < m → False := by
    intro n
    induction n with
    | zero =>
      intro l hl j m y h
      rw [List.eq_nil_of_length_eq_zero hl] at h
      cases h
    | succ n ih =>
      intro l hl j m y h hy hi hlt
      rcases List.eq_nil_or_concat l with rfl | ⟨l', x, rfl⟩
      · cases h
      rw [List.concat_eq_append] at hl h hy
      rw [lastIdx_snoc] at h
      have hm := (List.getElem?_eq_some_iff.1 hy).1
      rw [List.length_append, List.length_singleton] at hm hl
      by_cases hx : (i : Int) = (x.1 : Int)
      · rw [if_pos hx] at h
        injection h with h
        omega
      · rw [if_neg hx] at h
        by_cases hm2 : m < l'.length
        · rw [List.getElem?_append_left hm2] at hy
          exact ih l' (by omega) j m y h hy hi hlt
        · rw [List.getElem?_append_right (by omega), show m - l'.length = 0 from by omega] at hy
          simp only [List.getElem?_cons_zero, Option.some.injEq] at hy
          subst hy
          exact hx (by rw [hi])
  exact key _ l rfl j m y h hy hi hlt
theorem DS.read_settle {s : DS} {n : Nat} (h : s.Ok n) (bits : List Int) (i : Nat) : (s.settle bits).read i = s.read i := by
  unfold DS.settle
  split
  · rfl
  · rw [DS.read_eq, DS.read_eq]
    show (lastD s.ghosts (i : Int)).getD ((lastD (leftTo s.pend bits s.pend.length) (i : Int)).getD (blk (settleTo s.bytes s.pend bits s.pend.length) i)) = _
    congr 1
    rw [left_last bits i s.pend.length (Nat.le_refl _), blk_settle h.len h.u8 h.pend bits i, List.take_length]
    rcases lastIdx_at (i : Int) s.pend.length s.pend rfl with ⟨e1, e2⟩ | ⟨j, x, e1, e2, e3, e4⟩
    · rw [e1, e2]
      simp only [Option.getD_none]
      cases hN : newTo s.pend bits s.pend.length (i : Int) with
      | none => rfl
      | some m =>
        exfalso
        obtain ⟨-, x, hx, hi⟩ := newTo_some hN
        have hf : ∀ l : List (Nat × List Int), x ∈ l → lastD l (i : Int) ≠ none := by
          intro l hm hn
          unfold lastD at hn
          rw [Option.map_eq_none_iff, List.find?_eq_none] at hn
          exact hn x (by simpa using hm) (decide_eq_true (by rw [hi]))
        exact hf _ (List.mem_of_getElem? hx) e2
    · rw [e1, e4]
      simp only [Option.getD_some]
      cases hN : newTo s.pend bits s.pend.length (i : Int) with
      | none => rfl
      | some m =>
        by_cases hm : m < j
        · rw [if_pos (show passes (some m) j = true from decide_eq_true hm)]
          rfl
        · rw [if_neg (show ¬ passes (some m) j = true from fun h => hm (of_decide_eq_true h))]
          simp only [Option.getD_none]
          obtain ⟨hlt, y, hy, hi⟩ := newTo_some hN
          have hmj : m = j := by
            rcases Nat.lt_or_ge j m with hlt2 | hge
            · exfalso
              exact last_most e1 hy hi hlt2
            · omega
          subst hmj
          rw [e2]
          rfl
theorem DS.flush_pend (s : DS) : s.flush.pend.length ≤ s.pend.length := by
  unfold DS.flush
  split
  · exact Nat.le_refl _
  · exact Nat.zero_le _
theorem DS.settle_pend (s : DS) (bits : List Int) : (s.settle bits).pend.length ≤ s.pend.length := by
  unfold DS.settle
  split
  · exact Nat.le_refl _
  · exact leftTo_le _ _ _
theorem DS.write_pend (s : DS) (j : Nat) (xs : List Int) : (s.write j xs).pend.length ≤ s.pend.length + 1 := by
  unfold DS.write
  split
  · exact Nat.le_succ _
  · exact Nat.le_of_eq (by rw [List.length_append, List.length_singleton])
end Go.Proofs.Ytbpkjkdbijifbaa.X
