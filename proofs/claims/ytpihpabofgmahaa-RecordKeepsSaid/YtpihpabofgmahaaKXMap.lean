/- XMap: what this claim uses. Laid by slim.py (ours). -/
import Derived.Maps.OwnSet
import Derived.Maps.OwnOps
import Derived.Maps.RangeWalk
namespace Go.Proofs.Ytpihpabofgmahaa.X
open Go Go.Maps Go.WideShapes
def keyset (u : DataW Unit) (l : List Int) : DataW Unit := setOf u (l.map (Lit.int .i64))
theorem keyset_snoc (u : DataW Unit) (l : List Int) (b : Int) : keyset u (l ++ [b]) = (keyset u l).put (.int .i64 b) u := by
  unfold keyset
  rw [List.map_append]
  exact setOf_snoc u _ _
theorem keys_are (l : List Int) : ∀ x ∈ l.map (Lit.int .i64), WideAt.IsKeyLit x := by
  intro x hx
  obtain ⟨b, _, rfl⟩ := List.mem_map.1 hx
  trivial
theorem key_any (l : List Int) (b : Int) : (l.map (Lit.int .i64)).any (fun x => x.sameKey (.int .i64 b)) = decide (b ∈ l) := by
  rw [Bool.eq_iff_iff, List.any_eq_true, decide_eq_true_eq]
  constructor
  · rintro ⟨x, hx, hs⟩
    obtain ⟨c, hc, rfl⟩ := List.mem_map.1 hx
    have := WideAt.sameKey_eq hs
    injection this with _ h
    rw [← h]
    exact hc
  · intro h
    exact ⟨_, List.mem_map.2 ⟨b, h, rfl⟩, WideAt.sameKey_self trivial⟩
theorem keyset_has (u : DataW Unit) (l : List Int) (b : Int) : Maps.has (keyset u l) (.int .i64 b) = decide (b ∈ l) := by
  unfold keyset
  rw [has_setOf u _ _ (keys_are l), key_any]
theorem atKey_fold (u z : DataW Unit) (k : Lit) (hk : WideAt.IsKeyLit k) : ∀ (acc : List Lit) (m : DataW Unit), IsMap m → (acc.foldl (fun m x => m.put x u) m).atKey k z = if acc.any (fun x => x.sameKey k) then u else m.atKey k z
  | [], m, _ => rfl
  | x :: r, m, hm => by
    rw [List.foldl_cons, atKey_fold u z k hk r (m.put x u) (hm.put x u), List.any_cons]
    by_cases e : k = x
    · subst e
      rw [atKey_put_same hm hk, WideAt.sameKey_self hk]
      simp
    · rw [atKey_put_other e, sameKey_ne (fun e' => e e'.symm)]
      simp
theorem keyset_at (u z : DataW Unit) (l : List Int) (b : Int) : (keyset u l).atKey (.int .i64 b) z = if b ∈ l then u else z := by
  unfold keyset setOf
  rw [atKey_fold u z (.int .i64 b) trivial _ _ isMap_empty, key_any]
  by_cases h : b ∈ l
  · rw [if_pos (by simpa using h), if_pos h]
  · rw [if_neg (by simpa using h), if_neg h]
    rfl
theorem keyset_size (u : DataW Unit) (n : Nat) : ∀ l : List Int, l.length = n → Maps.size (keyset u l) ≤ l.length ∧ (Maps.size (keyset u l) = l.length ↔ l.Nodup) := by
  induction n with
  | zero =>
    intro l hl
    rw [List.length_eq_zero_iff.1 hl]
    exact ⟨Nat.le_refl _, fun _ => List.nodup_nil, fun _ => rfl⟩
  | succ n ih =>
    intro l hl
    obtain ⟨r, b, rfl⟩ : ∃ r b, l = r ++ [b] := by
      rcases List.eq_nil_or_concat l with h | ⟨r, b, h⟩
      · rw [h] at hl
        simp at hl
      · exact ⟨r, b, by rw [h, List.concat_eq_append]⟩
    rw [List.length_append, List.length_singleton] at hl
    obtain ⟨h1, h2⟩ := ih r (by omega)
    have hsz := size_put (D := keyset u r) (k := .int .i64 b) (tidy_setOf u _ (keys_are r)) u
    rw [keyset_snoc, hsz, keyset_has, List.length_append, List.length_singleton]
    rw [List.nodup_append]
    by_cases hb : b ∈ r
    · rw [if_pos (by simpa using hb)]
      refine ⟨by omega, fun h => by omega, fun h => ?_⟩
      exact absurd rfl (h.2.2 b hb b (List.mem_singleton.2 rfl))
    · rw [if_neg (by simpa using hb)]
      refine ⟨by omega, fun h => ⟨h2.1 (by omega), List.nodup_cons.2 ⟨by simp, List.nodup_nil⟩, fun x hx y hy e => ?_⟩, fun h => by rw [h2.2 h.1]⟩
      rw [List.mem_singleton.1 hy] at e
      exact hb (e ▸ hx)
theorem next_iu {H : Type} {P : Program} (w : World) {ops : Array Oper} {rest : List Oper} {o : Oper} {a : Act} {Q : Exit → Act → World → Prop} (hg : o.guard = none) (it : Operand) (hop : o.op = Op.next it false) (k : TypeId) (qk : IntKind) (K : Keyed P k) (hk : P.underlying k = some (.int qk))
    (b r n : Nat) (D : DataW H) (left : Lit → Bool) (cnt : Nat) (hit : a.eval it = .pointer (some ⟨r, 0, none⟩)) (h : w.ranges P k unitElem b r n D left cnt)
    (hDone : (∀ kl, left kl = false) → wpList P ops Q rest (a.put o.dst (.tuple #[.bool false])) w)
    (hMore : ∀ (x : Int) (w' : World) (cnt' : Nat), Maps.has D (.int qk x) = true → w'.ranges P k unitElem b r n D (fun z => left z && !z.sameKey (.int qk x)) cnt' → cnt' < cnt →
      w.grownBy w' (some r) → (Instr.entry (.pointer (some ⟨r, 0, none⟩))).run P w' = .ok (.tuple #[.int qk x, .agg #[]]) w' → wpList P ops Q rest (a.put o.dst (.tuple #[.bool true, .int qk x, .agg #[]])) w') :
    wpList P ops Q (o :: rest) a w :=
  wpList_next_ranges w hg it hop k K unitElem (Value.int qk) (fun _ : Unit => Value.agg #[]) (fun key kl hkey => by obtain ⟨x, rfl, _⟩ := Maps.keyOf_int_inv hk hkey; exact ⟨x, rfl⟩) (fun v y hv => by obtain ⟨rfl, _⟩ := unitElem_inv hv; exact ⟨(), rfl⟩)
    b r n D left cnt hit h (fun _ => hDone) (fun x c kl y w' cnt' hkey hlk hv hat hrg hlt hgr hsz hen => by
      obtain ⟨x', ex, rfl, hwx⟩ := Maps.keyOf_int_inv hk hkey
      cases ex
      exact hMore x w' cnt' (has_true_of_atKey hat) hrg hlt hgr hen)
end Go.Proofs.Ytpihpabofgmahaa.X
