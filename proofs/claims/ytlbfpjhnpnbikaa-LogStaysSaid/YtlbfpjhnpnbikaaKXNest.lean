/- XNest: what this claim uses. Laid by slim.py (ours). -/
import Derived.Test.YtlbfpjhnpnbikaaKXSep
namespace Go.Proofs.Ytlbfpjhnpnbikaa.X
set_option linter.unusedVariables false
open Go Go.RowKit
open Go.Proofs.YtlbfpjhnpnbikaaW.PrintWords
section
variable {w0 w w' : World} {L A : List Res} {R : Res}
theorem Lies.push (h : Lies w0 w (R :: .sep A :: L)) (i : Nat) (hi : A[i]? = some .emp) : Lies w0 w (.sep (A.set i R) :: L) := by
  obtain ⟨hb, O, S, h1, h2, h3, h4, h5⟩ := h
  obtain ⟨Of, Sf, g1, g2, g3, g4, g5⟩ := h1 1 _ rfl
  have hR := h1 0 _ rfl
  have hlt := (List.getElem?_eq_some_iff.1 hi).1
  refine ⟨hb, fun m k => match m with | 0 => O 0 k ∨ O 1 k | m + 1 => O (m + 2) k, fun m k => match m with | 0 => S 0 k ∨ S 1 k | m + 1 => S (m + 2) k, ?_, ?_, ?_, ?_, ?_⟩
  · intro m R2 hR2
    match m with
    | 0 =>
      simp only [List.getElem?_cons_zero, Option.some.injEq] at hR2
      subst hR2
      refine ⟨fun j k => (j = i ∧ O 0 k) ∨ (j ≠ i ∧ Of j k), fun j k => (j = i ∧ S 0 k) ∨ (j ≠ i ∧ Sf j k), fun j R3 hR3 => ?_, fun j k hk => hk.elim (fun h => .inl h.2) (fun h => .inr (g2 j k h.2)), fun j k hk => hk.elim (fun h => .inl h.2) (fun h => .inr (g3 j k h.2)), ?_, ?_⟩
      · by_cases hj : j = i
        · subst hj
          rw [List.getElem?_set_self hlt] at hR3
          injection hR3 with hR3
          subst hR3
          have e1 : (fun k => (j = j ∧ O 0 k) ∨ (j ≠ j ∧ Of j k)) = O 0 := by funext k; exact propext ⟨fun h => h.elim (fun h => h.2) (fun h => absurd rfl h.1), fun h => .inl ⟨rfl, h⟩⟩
          have e2 : (fun k => (j = j ∧ S 0 k) ∨ (j ≠ j ∧ Sf j k)) = S 0 := by funext k; exact propext ⟨fun h => h.elim (fun h => h.2) (fun h => absurd rfl h.1), fun h => .inl ⟨rfl, h⟩⟩
          show R.holds w (fun k => (j = j ∧ O 0 k) ∨ (j ≠ j ∧ Of j k)) (fun k => (j = j ∧ S 0 k) ∨ (j ≠ j ∧ Sf j k))
          rw [e1, e2]
          exact hR
        · rw [List.getElem?_set_ne (Ne.symm hj)] at hR3
          have e1 : (fun k => (j = i ∧ O 0 k) ∨ (j ≠ i ∧ Of j k)) = Of j := by funext k; exact propext ⟨fun h => h.elim (fun h => absurd h.1 hj) (fun h => h.2), fun h => .inr ⟨hj, h⟩⟩
          have e2 : (fun k => (j = i ∧ S 0 k) ∨ (j ≠ i ∧ Sf j k)) = Sf j := by funext k; exact propext ⟨fun h => h.elim (fun h => absurd h.1 hj) (fun h => h.2), fun h => .inr ⟨hj, h⟩⟩
          show R3.holds w (fun k => (j = i ∧ O 0 k) ∨ (j ≠ i ∧ Of j k)) (fun k => (j = i ∧ S 0 k) ∨ (j ≠ i ∧ Sf j k))
          rw [e1, e2]
          exact g1 j R3 hR3
      · rintro a b k (⟨rfl, ha⟩ | ⟨ha, ha'⟩) (⟨rfl, hc⟩ | ⟨hc, hc'⟩)
        · rfl
        · exact absurd (h4 0 1 k ha (g2 b k hc')) (by omega)
        · exact absurd (h4 1 0 k (g2 a k ha') hc) (by omega)
        · exact g4 a b k ha' hc'
      · rintro a b k (⟨rfl, ha⟩ | ⟨ha, ha'⟩) (⟨rfl, hc⟩ | ⟨hc, hc'⟩)
        · exact h5 0 0 k ha hc
        · exact h5 0 1 k ha (g3 b k hc')
        · exact h5 1 0 k (g2 a k ha') hc
        · exact g5 a b k ha' hc'
    | m + 1 => exact h1 (m + 2) R2 (by simpa using hR2)
  · intro m k hk
    match m with
    | 0 => exact hk.elim (h2 0 k) (h2 1 k)
    | m + 1 => exact h2 (m + 2) k hk
  · intro m k hk
    match m with
    | 0 => exact hk.elim (h3 0 k) (h3 1 k)
    | m + 1 => exact h3 (m + 2) k hk
  · intro a b k ha hc
    match a, b with
    | 0, 0 => rfl
    | 0, b + 1 => exact ha.elim (fun h => absurd (h4 0 (b + 2) k h hc) (by omega)) (fun h => absurd (h4 1 (b + 2) k h hc) (by omega))
    | a + 1, 0 => exact hc.elim (fun h => absurd (h4 (a + 2) 0 k ha h) (by omega)) (fun h => absurd (h4 (a + 2) 1 k ha h) (by omega))
    | a + 1, b + 1 => have := h4 (a + 2) (b + 2) k ha hc; omega
  · intro a b k ha hc
    match a, b with
    | 0, 0 => exact ha.elim (fun h => hc.elim (h5 0 0 k h) (h5 0 1 k h)) (fun h => hc.elim (h5 1 0 k h) (h5 1 1 k h))
    | 0, b + 1 => exact ha.elim (fun h => h5 0 (b + 2) k h hc) (fun h => h5 1 (b + 2) k h hc)
    | a + 1, 0 => exact hc.elim (fun h => h5 (a + 2) 0 k ha h) (fun h => h5 (a + 2) 1 k ha h)
    | a + 1, b + 1 => exact h5 (a + 2) (b + 2) k ha hc
theorem Lies.snoc (h : Lies w0 w (.sep A :: R :: L)) : Lies w0 w (.sep (A ++ [R]) :: L) := Lies.close (A ++ [R]) (by have := h.open_; rwa [List.append_assoc])
end
def Res.wown (v : Value) (l : List (Int × Value × List Int)) : Res := .sep [.row (Kd.raw 2) 66 v (l.map fun x => [.int .i64 x.1, x.2.1]), .sep (l.map fun x => .row (Kd.int .u8) 5 x.2.1 x.2.2)]
section
variable {β : Type} {f : β → Int × List Int} {w0 w w' : World} {L : List Res} {v : Value} {l : List (Int × Value × List Int)} {xs : List β}
abbrev kWrite (f : β → Int × List Int) : Kd β := Kd.iso (Kd.pair (Kd.int .i64) (Kd.slice 5 (Kd.int .u8))) f
theorem Lies.wopen (h : Lies w0 w (.wown v l :: L)) : Lies w0 w (.row (Kd.raw 2) 66 v (l.map fun x => [.int .i64 x.1, x.2.1]) :: .sep (l.map fun x => .row (Kd.int .u8) 5 x.2.1 x.2.2) :: L) := h.open_
theorem Lies.wclose (h : Lies w0 w (.row (Kd.raw 2) 66 v (l.map fun x => [.int .i64 x.1, x.2.1]) :: .sep (l.map fun x => .row (Kd.int .u8) 5 x.2.1 x.2.2) :: L)) : Lies w0 w (.wown v l :: L) := Lies.close [_, _] h
theorem wown_holds {O S : Nat → Prop} (hh : (Res.wown v l).holds w O S) (hx : xs.map f = l.map fun x => (x.1, x.2.2)) : ∃ A c, v = .slice A l.length c ∧ l.length ≤ c ∧ (kWrite f).C w A l.length xs ∧ (0 < l.length → ∃ g, A = some ⟨g, 0, none⟩) := by
  obtain ⟨Of, Sf, g1, -⟩ := hh
  have hr : (Kd.raw 2).R 66 w 0 (Of 0) v (l.map fun x => [.int .i64 x.1, x.2.1]) := g1 0 _ rfl
  obtain ⟨Og, Sg, k1, -⟩ := g1 1 _ rfl
  obtain ⟨A, c, rfl, hc, hC⟩ := Kd.R_reads hr
  have hxl : xs.length = l.length := by have := congrArg List.length hx; simpa using this
  rw [List.length_map] at hc hC ⊢
  refine ⟨A, c, rfl, hc, ⟨hxl, hC.2.1, fun h0 => ?_⟩, fun h0 => ?_⟩
  · obtain ⟨ad, rfl, hcc⟩ := hC.2.2 h0
    refine ⟨ad, rfl, fun j p hj => ?_⟩
    have hlt : j < l.length := by have := (List.getElem?_eq_some_iff.1 hj).1; omega
    obtain ⟨cs, hcs, ⟨e1, _, h1⟩, hcell⟩ := hcc j _ (by rw [List.getElem?_map, List.getElem?_eq_getElem hlt]; rfl)
    have hrow : ((l.map fun x => Res.row (Kd.int .u8) 5 x.2.1 x.2.2) : List Res)[j]? = some (.row (Kd.int .u8) 5 l[j].2.1 l[j].2.2) := by rw [List.getElem?_map, List.getElem?_eq_getElem hlt]; rfl
    obtain ⟨A2, c2, e2, hc2, hC2⟩ := Kd.R_reads (k1 j _ hrow)
    have e3 : f p = (l[j].1, l[j].2.2) := by
      have h3 := congrArg (fun z => z[j]?) hx
      simp only [List.getElem?_map, hj, List.getElem?_eq_getElem hlt, Option.map_some, Option.some.injEq] at h3
      exact h3
    refine ⟨cs, hcs, ⟨[.int .i64 l[j].1], [l[j].2.1], e1, ?_, ?_⟩, hcell⟩
    · show [Value.int .i64 l[j].1] = [Value.int .i64 (f p).1]
      rw [e3]
    · show ∃ A c, [l[j].2.1] = [Value.slice A (f p).2.length c] ∧ (f p).2.length ≤ c ∧ (Kd.int .u8).C w A (f p).2.length (f p).2
      rw [e3]
      exact ⟨A2, c2, by rw [e2], hc2, hC2⟩
  · obtain ⟨g, cap, e, -⟩ := Kd.R_form hr (by rw [List.length_map]; exact h0)
    injection e with e
    exact ⟨g, e⟩
theorem Lies.wown_reads (h : Lies w0 w L) (i : Nat) (hi : L[i]? = some (.wown v l)) (hx : xs.map f = l.map fun x => (x.1, x.2.2)) : ∃ A c, v = .slice A l.length c ∧ l.length ≤ c ∧ (kWrite f).C w A l.length xs ∧ (0 < l.length → ∃ g, A = some ⟨g, 0, none⟩) := by
  obtain ⟨O, S, hh⟩ := h.at i hi
  exact wown_holds hh hx
theorem Lies.wsnoc {u : Value} {b : Int} {ys : List Int} (h : Lies w0 w (.wown v l :: .row (Kd.int .u8) 5 u ys :: L)) : ∃ ok : Nat → Prop, (Kd.raw 2).R 66 w 0 ok v (l.map fun x => [.int .i64 x.1, x.2.1]) ∧ (∀ k, w.heap.size ≤ k → ok k) ∧
    ∀ {v1 : Value} {w1 : World}, (Kd.raw 2).R 66 w1 0 ok v1 ((l.map fun x => [.int .i64 x.1, x.2.1]) ++ [[.int .i64 b, u]]) → w.grownBy w1 v.ownBlock → Lies w0 w1 (.wown v1 (l ++ [(b, u, ys)]) :: L) := by
  obtain ⟨ok, h1, h2, h3⟩ := h.wopen.grown1
  refine ⟨ok, h1, h2, fun hr hg => ?_⟩
  have h4 := ((h3 hr hg).perm [1, 2, 0] 3 (by decide) (by decide))
  have h5 : Lies w0 _ (.sep (l.map fun x => .row (Kd.int .u8) 5 x.2.1 x.2.2) :: .row (Kd.int .u8) 5 u ys :: .row (Kd.raw 2) 66 _ _ :: L) := h4
  have h6 := h5.snoc.swap
  refine Lies.wclose ?_
  rw [List.map_append, List.map_append]
  exact h6
theorem Lies.wnone (h : Lies w0 w L) : Lies w0 w (.wown (.slice none 0 0) [] :: L) :=
  h.new (O := fun _ => False) (S := fun _ => False) (Below.refl _ _) ⟨fun _ _ => False, fun _ _ => False, fun i R hR => by
    match i with
    | 0 => simp only [List.getElem?_cons_zero, Option.some.injEq] at hR; subst hR; exact Kd.R_nil _ _ _ _ _
    | 1 => simp only [List.getElem?_cons_succ, List.getElem?_cons_zero, Option.some.injEq] at hR; subst hR; exact ⟨fun _ _ => False, fun _ _ => False, fun i R hR => by simp at hR, fun _ _ h => h, fun _ _ h => h, fun _ _ _ h => h.elim, fun _ _ _ h => h.elim⟩
    | i + 2 => simp at hR, fun _ _ h => h, fun _ _ h => h, fun _ _ _ h => h.elim, fun _ _ _ h => h.elim⟩ (fun _ h => h.elim) (fun _ h => h.elim) (fun _ h => h.elim)
end
end Go.Proofs.Ytlbfpjhnpnbikaa.X
