/- XTear XKeep XMap: what this claim uses. Laid by slim.py (ours). -/
import Derived.Test.YtlbfpjhnpnbikaaKXDisk2
import Derived.Maps.OwnSet
import Derived.Maps.OwnOps
import Derived.Maps.RangeWalk
section
namespace Go.Proofs.Ytlbfpjhnpnbikaa.X
open Go Go.RowKit
theorem lay_get {xs ys : List Int} {j : Nat} (h : j + ys.length ≤ xs.length) (i : Nat) : (lay xs j ys)[i]? = if j ≤ i ∧ i < j + ys.length then ys[i - j]? else xs[i]? := by
  unfold lay
  by_cases h1 : i < j
  · rw [if_neg (by omega), List.getElem?_append_left (by rw [List.length_take]; omega), List.getElem?_take, if_pos h1]
  · rw [List.getElem?_append_right (by rw [List.length_take]; omega), List.length_take, Nat.min_eq_left (by omega)]
    by_cases h2 : i < j + ys.length
    · rw [if_pos ⟨by omega, h2⟩, List.getElem?_append_left (by omega)]
    · rw [if_neg (by omega), List.getElem?_append_right (by omega), List.getElem?_drop]
      congr 1
      omega
end Go.Proofs.Ytlbfpjhnpnbikaa.X
end
section
namespace Go.Proofs.Ytlbfpjhnpnbikaa.X
open Go Go.RowKit
def blk (b : List Int) (i : Nat) : List Int := (b.take (256 * i + 256)).drop (256 * i)
theorem blk_get (b : List Int) (i k : Nat) : (blk b i)[k]? = if k < 256 then b[256 * i + k]? else none := by
  unfold blk
  rw [List.getElem?_drop, List.getElem?_take]
  by_cases h : k < 256
  · rw [if_pos (by omega), if_pos h]
  · rw [if_neg (by omega), if_neg h]
theorem blk_lay {n : Nat} {b : List Int} {x : Nat × List Int} (hb : b.length = 256 * n) (hx : WOk n x) (i : Nat) : blk (lay b (256 * x.1) x.2) i = if i = x.1 then x.2 else blk b i := by
  have h1 := hx.1
  have h2 := hx.2.1
  have hg := fun k => lay_get (xs := b) (ys := x.2) (j := 256 * x.1) (by omega) k
  by_cases hi : i = x.1
  · rw [if_pos hi]
    apply List.ext_getElem?
    intro k
    rw [blk_get, hg]
    by_cases hk : k < 256
    · rw [if_pos hk, if_pos (by omega)]
      congr 1
      omega
    · rw [if_neg hk, List.getElem?_eq_none (by omega)]
  · rw [if_neg hi]
    apply List.ext_getElem?
    intro k
    rw [blk_get, blk_get, hg]
    by_cases hk : k < 256
    · rw [if_pos hk, if_pos hk, if_neg (by omega)]
    · rw [if_neg hk, if_neg hk]
theorem lastD_cons (x : Nat × List Int) (l : List (Nat × List Int)) (i : Int) : lastD (x :: l) i = (lastD l i).or (if i = (x.1 : Int) then some x.2 else none) := by
  unfold lastD
  rw [List.reverse_cons, List.find?_append]
  cases l.reverse.find? (fun p => decide ((p.1 : Int) = i)) with
  | some y => rfl
  | none =>
    simp only [Option.none_or, Option.map_none, List.find?_cons, List.find?_nil]
    by_cases h : i = (x.1 : Int)
    · rw [if_pos h, decide_eq_true h.symm]
      rfl
    · rw [if_neg h, decide_eq_false (fun e => h e.symm)]
      rfl
theorem blk_lays {n : Nat} (i : Nat) : ∀ (l : List (Nat × List Int)) (b : List Int), b.length = 256 * n → u8all b = true → (∀ x ∈ l, WOk n x) → blk (laysTo b l) i = (lastD l (i : Int)).getD (blk b i)
  | [], b, _, _, _ => rfl
  | x :: l, b, hb, hu, hl => by
    have hx := hl x List.mem_cons_self
    have h1 := lay_ok hb hu hx
    have ih := blk_lays i l (lay b (256 * x.1) x.2) h1.1 h1.2 (fun y hy => hl y (List.mem_cons_of_mem _ hy))
    rw [show laysTo b (x :: l) = laysTo (lay b (256 * x.1) x.2) l from rfl, ih, blk_lay hb hx, lastD_cons]
    cases lastD l (i : Int) with
    | some y => rfl
    | none =>
      simp only [Option.none_or, Option.getD_none]
      by_cases h : i = x.1
      · rw [if_pos h, if_pos (by omega)]; rfl
      · rw [if_neg h, if_neg (by omega)]; rfl
theorem DS.read_eq (s : DS) (i : Nat) : s.read i = (lastD s.ghosts (i : Int)).getD ((lastD s.pend (i : Int)).getD (blk s.bytes i)) := rfl
theorem DS.read_flush {s : DS} {n : Nat} (h : s.Ok n) (i : Nat) : s.flush.read i = s.read i := by
  unfold DS.flush
  split
  · rfl
  · rw [DS.read_eq, DS.read_eq]
    show (lastD s.ghosts (i : Int)).getD ((lastD [] (i : Int)).getD (blk (laysTo s.bytes s.pend) i)) = _
    rw [blk_lays i s.pend s.bytes h.len h.u8 h.pend, lastD_nil, Option.getD_none]
theorem DS.read_write (s : DS) (j : Nat) (xs : List Int) (i : Nat) : (s.write j xs).read i = if i = j then (if s.blown = true then xs else (lastD s.ghosts (i : Int)).getD xs) else s.read i := by
  unfold DS.write DS.blown
  split
  · rename_i hb
    rw [DS.read_eq, DS.read_eq]
    show (lastD (s.ghosts ++ [(j, xs)]) (i : Int)).getD ((lastD s.pend (i : Int)).getD (blk s.bytes i)) = _
    rw [lastD_snoc]
    by_cases h : i = j
    · rw [if_pos h, if_pos (show (i : Int) = ((j, xs).1 : Int) from by rw [h])]; rfl
    · rw [if_neg h, if_neg (show ¬ (i : Int) = ((j, xs).1 : Int) from fun e => h (Int.ofNat.inj e))]
  · rename_i hb
    rw [DS.read_eq, DS.read_eq]
    show (lastD s.ghosts (i : Int)).getD ((lastD (s.pend ++ [(j, xs)]) (i : Int)).getD (blk s.bytes i)) = _
    rw [lastD_snoc]
    by_cases h : i = j
    · rw [if_pos h, if_pos (show (i : Int) = ((j, xs).1 : Int) from by rw [h])]; rfl
    · rw [if_neg h, if_neg (show ¬ (i : Int) = ((j, xs).1 : Int) from fun e => h (Int.ofNat.inj e))]
theorem DS.write_pend (s : DS) (j : Nat) (xs : List Int) : (s.write j xs).pend.length ≤ s.pend.length + 1 := by
  unfold DS.write
  split
  · exact Nat.le_succ _
  · exact Nat.le_of_eq (by rw [List.length_append, List.length_singleton])
end Go.Proofs.Ytlbfpjhnpnbikaa.X
end
section
namespace Go.Proofs.Ytlbfpjhnpnbikaa.X
open Go Go.Maps Go.WideShapes
def keyset (u : DataW Unit) (l : List Int) : DataW Unit := setOf u (l.map (Lit.int .i64))
theorem keyset_snoc (u : DataW Unit) (l : List Int) (b : Int) : keyset u (l ++ [b]) = (keyset u l).put (.int .i64 b) u := by
  unfold keyset
  rw [List.map_append]
  exact setOf_snoc u _ _
theorem keys_are (l : List Int) : ∀ x ∈ l.map (Lit.int .i64), WideAt.IsKeyLit x := by
  intro x hx
  obtain ⟨b, _, rfl⟩ := List.mem_map.1 hx
  trivial
theorem key_any (l : List Int) (b : Int) : (l.map (Lit.int .i64)).any (fun x => x.sameKey (.int .i64 b)) = decide (b ∈ l) := by
  rw [Bool.eq_iff_iff, List.any_eq_true, decide_eq_true_eq]
  constructor
  · rintro ⟨x, hx, hs⟩
    obtain ⟨c, hc, rfl⟩ := List.mem_map.1 hx
    have := WideAt.sameKey_eq hs
    injection this with _ h
    rw [← h]
    exact hc
  · intro h
    exact ⟨_, List.mem_map.2 ⟨b, h, rfl⟩, WideAt.sameKey_self trivial⟩
theorem keyset_has (u : DataW Unit) (l : List Int) (b : Int) : Maps.has (keyset u l) (.int .i64 b) = decide (b ∈ l) := by
  unfold keyset
  rw [has_setOf u _ _ (keys_are l), key_any]
theorem keyset_size (u : DataW Unit) (n : Nat) : ∀ l : List Int, l.length = n → Maps.size (keyset u l) ≤ l.length ∧ (Maps.size (keyset u l) = l.length ↔ l.Nodup) := by
  induction n with
  | zero =>
    intro l hl
    rw [List.length_eq_zero_iff.1 hl]
    exact ⟨Nat.le_refl _, fun _ => List.nodup_nil, fun _ => rfl⟩
  | succ n ih =>
    intro l hl
    obtain ⟨r, b, rfl⟩ : ∃ r b, l = r ++ [b] := by
      rcases List.eq_nil_or_concat l with h | ⟨r, b, h⟩
      · rw [h] at hl
        simp at hl
      · exact ⟨r, b, by rw [h, List.concat_eq_append]⟩
    rw [List.length_append, List.length_singleton] at hl
    obtain ⟨h1, h2⟩ := ih r (by omega)
    have hsz := size_put (D := keyset u r) (k := .int .i64 b) (tidy_setOf u _ (keys_are r)) u
    rw [keyset_snoc, hsz, keyset_has, List.length_append, List.length_singleton]
    rw [List.nodup_append]
    by_cases hb : b ∈ r
    · rw [if_pos (by simpa using hb)]
      refine ⟨by omega, fun h => by omega, fun h => ?_⟩
      exact absurd rfl (h.2.2 b hb b (List.mem_singleton.2 rfl))
    · rw [if_neg (by simpa using hb)]
      refine ⟨by omega, fun h => ⟨h2.1 (by omega), List.nodup_cons.2 ⟨by simp, List.nodup_nil⟩, fun x hx y hy e => ?_⟩, fun h => by rw [h2.2 h.1]⟩
      rw [List.mem_singleton.1 hy] at e
      exact hb (e ▸ hx)
theorem next_iu {H : Type} {P : Program} (w : World) {ops : Array Oper} {rest : List Oper} {o : Oper} {a : Act} {Q : Exit → Act → World → Prop} (hg : o.guard = none) (it : Operand) (hop : o.op = Op.next it false) (k : TypeId) (qk : IntKind) (K : Keyed P k) (hk : P.underlying k = some (.int qk))
    (b r n : Nat) (D : DataW H) (left : Lit → Bool) (cnt : Nat) (hit : a.eval it = .pointer (some ⟨r, 0, none⟩)) (h : w.ranges P k unitElem b r n D left cnt)
    (hDone : (∀ kl, left kl = false) → wpList P ops Q rest (a.put o.dst (.tuple #[.bool false])) w)
    (hMore : ∀ (x : Int) (w' : World) (cnt' : Nat), Maps.has D (.int qk x) = true → w'.ranges P k unitElem b r n D (fun z => left z && !z.sameKey (.int qk x)) cnt' → cnt' < cnt →
      w.grownBy w' (some r) → (Instr.entry (.pointer (some ⟨r, 0, none⟩))).run P w' = .ok (.tuple #[.int qk x, .agg #[]]) w' → wpList P ops Q rest (a.put o.dst (.tuple #[.bool true, .int qk x, .agg #[]])) w') :
    wpList P ops Q (o :: rest) a w :=
  wpList_next_ranges w hg it hop k K unitElem (Value.int qk) (fun _ : Unit => Value.agg #[]) (fun key kl hkey => by obtain ⟨x, rfl, _⟩ := Maps.keyOf_int_inv hk hkey; exact ⟨x, rfl⟩) (fun v y hv => by obtain ⟨rfl, _⟩ := unitElem_inv hv; exact ⟨(), rfl⟩)
    b r n D left cnt hit h (fun _ => hDone) (fun x c kl y w' cnt' hkey hlk hv hat hrg hlt hgr hsz hen => by
      obtain ⟨x', ex, rfl, hwx⟩ := Maps.keyOf_int_inv hk hkey
      cases ex
      exact hMore x w' cnt' (has_true_of_atKey hat) hrg hlt hgr hen)
end Go.Proofs.Ytlbfpjhnpnbikaa.X
end
