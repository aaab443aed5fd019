/- XDisk: what this claim uses. Laid by slim.py (ours). -/
import Derived.Test.YtlbfpjhnpnbikaaKXSep
import Derived.Maps.OwnSet
import Derived.Maps.Views
namespace Go.Proofs.Ytlbfpjhnpnbikaa.X
open Go Go.RowKit Go.Maps Go.WideElems Go.ChangeMaps Go.MapKept
open Go.Proofs.YtlbfpjhnpnbikaaW.PrintWords
def heldElem (v : Value) : Option (DataW Value × List MemPlace) := some (.held v, [])
def IMap (P : Program) (K : TypeId) (w : World) (b : Nat) (f : Int → Option Value) : Prop :=
  ∃ D : DataW Value, w.ownsMap P K heldElem b 1024 D ∧ ∀ i : Int, (Lit.int .i64 i).wf = true → has D (.int .i64 i) = (f i).isSome ∧ ∀ v, f i = some v → D.atKey (.int .i64 i) .nil = .held v
theorem atKey_dflt {H : Type} {D : DataW H} {k : Lit} (d d' : DataW H) (h : has D k = true) : D.atKey k d = D.atKey k d' := by
  cases D <;> simp only [has] at h <;> try (cases h)
  rename_i es
  unfold DataW.atKey
  cases hf : es.find? (fun p => p.1.sameKey k) with
  | none =>
    exfalso
    rw [List.find?_eq_none] at hf
    rw [List.any_eq_true] at h
    obtain ⟨p, hp, hk⟩ := h
    exact hf p hp hk
  | some p => simp only [hf]
theorem atKey_not {H : Type} {D : DataW H} {k : Lit} (d : DataW H) (h : has D k = false) : D.atKey k d = d := atKey_of_not_has h d
section
variable {P : Program} {K E t : TypeId} {w : World} {b : Nat} {f : Int → Option Value}
theorem IMap.lt (h : IMap P K w b f) : b < w.heap.size := by obtain ⟨D, h, _⟩ := h; exact h.lt
theorem IMap.move {w' : World} (h : IMap P K w b f) (hm : w'.heap[b]? = w.heap[b]?) : IMap P K w' b f := by
  obtain ⟨D, ⟨es, clock, hb, r⟩, h2⟩ := h
  exact ⟨D, ⟨es, clock, hm.trans hb, r⟩, h2⟩
theorem IMap.made (w : World) : IMap P K (w.alloc (.map #[] 0)) w.heap.size (fun _ => none) :=
  ⟨.map [], (World.ownsMap_made w P K heldElem).mono (by omega), fun i _ => ⟨rfl, fun v hv => by cases hv⟩⟩
theorem IMap.look (h : IMap P K w b f) (hK : P.underlying K = some (.int .i64)) (ht : P.underlying t = some (.map K E)) {z : Value} (hz : (zeroValue E).run P w = .ok z w) {i : Int} (hi : (Lit.int .i64 i).wf = true) :
    (Instr.lookup t (.map (some b)) (.int .i64 i) true).run P w = .ok (.tuple #[(f i).getD z, .bool (f i).isSome]) w := by
  obtain ⟨D, hown, hf⟩ := h
  obtain ⟨v, ps, hrun, hv⟩ := hown.look_ok (R := heldElem) (int_keyed hK) ht hz (zd := .held z) (zp := []) rfl (keyOf_int_mk hK hi)
  obtain ⟨h1, h2⟩ := hf i hi
  rw [h1] at hrun
  have e : v = (f i).getD z := by
    simp only [heldElem, Option.some.injEq, Prod.mk.injEq] at hv
    cases hfi : f i with
    | none =>
      rw [hfi] at h1
      rw [atKey_not _ h1] at hv
      exact DataW.held.inj hv.1
    | some u =>
      rw [hfi] at h1
      rw [atKey_dflt _ .nil h1, h2 u hfi] at hv
      exact DataW.held.inj hv.1
  rw [← e]
  exact hrun
theorem few_keys : ∀ (n : Nat) (l : List Int), l.Nodup → (∀ x ∈ l, 0 ≤ x ∧ x < (n : Int)) → l.length ≤ n
  | 0, l, _, h => by
    cases l with
    | nil => exact Nat.le_refl 0
    | cons x l => have := h x List.mem_cons_self; omega
  | n + 1, l, hn, h => by
    have h1 := few_keys n (l.erase (n : Int)) (hn.erase _) (fun x hx => by
      have hx' := (List.Nodup.mem_erase_iff hn).1 hx
      have := h x hx'.2
      have := hx'.1
      omega)
    have := List.length_erase (a := (n : Int)) (l := l)
    split at this <;> omega
theorem keyOf_int_inv (hK : P.underlying K = some (.int .i64)) {v : Value} {l : Lit} (h : keyOf P K v = some l) : ∃ i : Int, l = .int .i64 i ∧ (Lit.int .i64 i).wf = true := by
  simp only [keyOf, hK, mapKey] at h
  cases v <;> simp only [] at h <;> try (cases h)
  rename_i q a
  split at h
  · rename_i hq
    injection h with h
    exact ⟨a, h.symm, hq.2⟩
  · cases h
def keyInt : Lit → Int
  | .int _ i => i
  | _ => 0
theorem own_tight {D : DataW Value} {n : Nat} (h : w.ownsMap P K heldElem b n D) (hK : P.underlying K = some (.int .i64)) (hd : ∀ i : Int, (Lit.int .i64 i).wf = true → has D (.int .i64 i) = true → 0 ≤ i ∧ i < 1024) : w.ownsMap P K heldElem b 1024 D := by
  have ht := h.tidy (int_keyed hK)
  obtain ⟨es, clock, hb, F, hs, hD⟩ := h
  refine ⟨es, clock, hb, F, ?_, hD⟩
  obtain ⟨l, hl, hp⟩ := ht
  have hDl : l = (es.toList.map (rg P K heldElem)).foldr DataW.insert [] := by
    rw [hl] at hD
    injection hD with hD
  have hlen : l.length = es.size := by
    rw [hDl, length_sorted]
    simp
  have hkeys : ∀ p ∈ l, ∃ i : Int, p.1 = .int .i64 i ∧ (Lit.int .i64 i).wf = true := by
    intro p hp
    have hk := fit_keys F
    have hmem : p ∈ es.toList.map (rg P K heldElem) := by
      rw [hDl] at hp
      exact (Go.WideShapes.sorted_perm _).mem_iff.1 hp
    obtain ⟨v, hv⟩ := hk p hmem
    exact keyOf_int_inv hK hv
  rw [← hlen]
  have hnd : (l.map (fun p => keyInt p.1)).Nodup := by
    rw [List.Nodup, List.pairwise_map]
    refine hp.imp_of_mem (fun {a c} ha hc hac he => ?_)
    obtain ⟨i, h1, _⟩ := hkeys a ha
    obtain ⟨j, h2, _⟩ := hkeys c hc
    rw [h1, h2] at he hac
    exact hac (by rw [show i = j from he])
  have := few_keys 1024 (l.map (fun p => keyInt p.1)) hnd (fun x hx => by
    obtain ⟨p, hp, rfl⟩ := List.mem_map.1 hx
    obtain ⟨i, h1, h2⟩ := hkeys p hp
    have := hd i h2 (by
      rw [hl, has_eq, List.any_eq_true]
      exact ⟨p, hp, by rw [h1]; exact Go.WideAt.sameKey_self (a := .int .i64 i) trivial⟩)
    rw [h1]
    exact this)
  simpa using this
theorem IMap.store (h : IMap P K w b f) (hK : P.underlying K = some (.int .i64)) (ht : P.underlying t = some (.map K E)) {i : Int} (hi : 0 ≤ i ∧ i < 1024) (hd : ∀ j v, f j = some v → 0 ≤ j ∧ j < 1024) (v : Value) :
    ∃ w', (Instr.mapUpdate t (.map (some b)) (.int .i64 i) v).run P w = .ok () w' ∧ IMap P K w' b (fun j => if j = i then some v else f j) ∧ w.grownBy w' (some b) := by
  obtain ⟨D, hown, hf⟩ := h
  have hwf : (Lit.int .i64 i).wf = true := by
    simp [Lit.wf, IntKind.min, IntKind.max, IntKind.bits, IntKind.signed]
    omega
  obtain ⟨w', hrun, h1, hg⟩ := hown.update (R := heldElem) (int_keyed hK) ht (by decide) (keyOf_int_mk hK hwf) (d := .held v) (ps := []) (val := v) rfl
  have hM := hown.isMap
  have key : ∀ j : Int, (Lit.int .i64 j).wf = true → has (D.put (.int .i64 i) (.held v)) (.int .i64 j) = (if j = i then some v else f j).isSome ∧ ∀ u, (if j = i then some v else f j) = some u → (D.put (.int .i64 i) (.held v)).atKey (.int .i64 j) .nil = .held u := by
    intro j hj
    by_cases hji : j = i
    · subst hji
      rw [if_pos rfl, has_put_same hM (k := .int .i64 j) trivial]
      exact ⟨rfl, fun u hu => by injection hu with hu; subst hu; exact atKey_put_same hM (k := .int .i64 j) trivial _ _⟩
    · have hne : Lit.int .i64 j ≠ Lit.int .i64 i := by intro e; injection e with _ e; exact hji e
      rw [if_neg hji, has_put_other hne]
      refine ⟨(hf j hj).1, fun u hu => ?_⟩
      rw [atKey_put_other hne]
      exact (hf j hj).2 u hu
  refine ⟨w', hrun, ⟨_, own_tight h1 hK (fun j hj hhas => ?_), key⟩, hg⟩
  rw [(key j hj).1] at hhas
  by_cases hji : j = i
  · rw [hji]; exact hi
  · rw [if_neg hji] at hhas
    obtain ⟨u, hu⟩ := Option.isSome_iff_exists.1 hhas
    exact hd j u hu
theorem IMap.clear (h : IMap P K w b f) (ht : P.underlying t = some (.map K E)) (ty : TypeId) :
    ∃ w', (Builtin.clear_ #[t] ty #[.map (some b)]).run P w = .ok (.tuple #[]) w' ∧ IMap P K w' b (fun _ => none) ∧ w.grownBy w' (some b) := by
  obtain ⟨D, ⟨es, clock, hb, F, hs, hD⟩, hf⟩ := h
  refine ⟨setBlock w b (.map #[] clock), ?_, ⟨.map [], ⟨#[], clock, heap_setBlock_same hb _, ?_, by simp, rfl⟩, fun i _ => ⟨rfl, fun v hv => by cases hv⟩⟩, ⟨rfl, rfl, rfl, by simp [setBlock], fun i _ hi => heap_setBlock_other hb _ (fun e => hi (by rw [e]))⟩⟩
  · have h1 := Go.MapKept.run_getObj_map (P := P) hb
    have h2 := Go.MapKept.run_setObj_map (P := P) (.map #[] clock) hb
    simp [Builtin.clear_, run_underlying ht, h1, h2, Result.andThen, ChangeMaps.setBlock]
  · exact ⟨by simp, stamped_empty clock, by simp⟩
end
end Go.Proofs.Ytlbfpjhnpnbikaa.X
