/- XNest: what this claim uses. Laid by slim.py (ours). -/
import Derived.Test.YtpihpabofgmahaaKXSep
namespace Go.Proofs.Ytpihpabofgmahaa.X
set_option linter.unusedVariables false
open Go Go.RowKit
open Go.Proofs.YtpihpabofgmahaaW.PrintWords
section
variable {w0 w w' : World} {L A : List Res} {R : Res}
theorem Lies.pull (h : Lies w0 w (.sep A :: L)) (i : Nat) (hi : A[i]? = some R) : Lies w0 w (R :: .sep (A.set i .emp) :: L) := by
  obtain ⟨hb, O, S, h1, h2, h3, h4, h5⟩ := h
  obtain ⟨Of, Sf, g1, g2, g3, g4, g5⟩ := h1 0 _ rfl
  refine ⟨hb, fun m k => match m with | 0 => Of i k | 1 => ∃ j, j ≠ i ∧ Of j k | m + 2 => O (m + 1) k, fun m k => match m with | 0 => Sf i k | 1 => ∃ j, j ≠ i ∧ Sf j k | m + 2 => S (m + 1) k, ?_, ?_, ?_, ?_, ?_⟩
  · intro m R2 hR
    match m with
    | 0 => simp only [List.getElem?_cons_zero, Option.some.injEq] at hR; subst hR; exact g1 i R hi
    | 1 =>
      simp only [List.getElem?_cons_succ, List.getElem?_cons_zero, Option.some.injEq] at hR
      subst hR
      refine ⟨fun j k => j ≠ i ∧ Of j k, fun j k => j ≠ i ∧ Sf j k, fun j R3 hR3 => ?_, fun j k hk => ⟨j, hk⟩, fun j k hk => ⟨j, hk⟩, fun a b k ha hb => g4 a b k ha.2 hb.2, fun a b k ha hb => g5 a b k ha.2 hb.2⟩
      by_cases hj : j = i
      · subst hj
        rw [List.getElem?_set_self (List.getElem?_eq_some_iff.1 hi).1] at hR3
        injection hR3 with hR3
        subst hR3
        trivial
      · rw [List.getElem?_set_ne (Ne.symm hj)] at hR3
        have e1 : (fun k => j ≠ i ∧ Of j k) = Of j := by funext k; exact propext ⟨fun h => h.2, fun h => ⟨hj, h⟩⟩
        have e2 : (fun k => j ≠ i ∧ Sf j k) = Sf j := by funext k; exact propext ⟨fun h => h.2, fun h => ⟨hj, h⟩⟩
        show R3.holds w (fun k => j ≠ i ∧ Of j k) (fun k => j ≠ i ∧ Sf j k)
        rw [e1, e2]
        exact g1 j R3 hR3
    | m + 2 => exact h1 (m + 1) R2 (by simpa using hR)
  · intro m k hk
    match m with
    | 0 => exact h2 0 k (g2 i k hk)
    | 1 => obtain ⟨j, _, hj⟩ := hk; exact h2 0 k (g2 j k hj)
    | m + 2 => exact h2 (m + 1) k hk
  · intro m k hk
    match m with
    | 0 => exact h3 0 k (g3 i k hk)
    | 1 => obtain ⟨j, _, hj⟩ := hk; exact h3 0 k (g3 j k hj)
    | m + 2 => exact h3 (m + 1) k hk
  · intro a b k ha hc
    match a, b with
    | 0, 0 => rfl
    | 1, 1 => rfl
    | 0, 1 => obtain ⟨j, hj, hk⟩ := hc; exact absurd (g4 i j k ha hk) (Ne.symm hj)
    | 1, 0 => obtain ⟨j, hj, hk⟩ := ha; exact absurd (g4 j i k hk hc) hj
    | 0, b + 2 => exact absurd (h4 0 (b + 1) k (g2 i k ha) hc) (by omega)
    | 1, b + 2 => obtain ⟨j, hj, hk⟩ := ha; exact absurd (h4 0 (b + 1) k (g2 j k hk) hc) (by omega)
    | a + 2, 0 => exact absurd (h4 (a + 1) 0 k ha (g2 i k hc)) (by omega)
    | a + 2, 1 => obtain ⟨j, hj, hk⟩ := hc; exact absurd (h4 (a + 1) 0 k ha (g2 j k hk)) (by omega)
    | a + 2, b + 2 => have := h4 (a + 1) (b + 1) k ha hc; omega
  · intro a b k ha hc
    match a, b with
    | 0, 0 => exact g5 i i k ha hc
    | 0, 1 => obtain ⟨j, hj, hk⟩ := hc; exact g5 i j k ha hk
    | 1, 0 => obtain ⟨j, hj, hk⟩ := ha; exact g5 j i k hk hc
    | 1, 1 => obtain ⟨j, hj, hk⟩ := ha; obtain ⟨j', hj', hk'⟩ := hc; exact g5 j j' k hk hk'
    | 0, b + 2 => exact h5 0 (b + 1) k (g2 i k ha) hc
    | 1, b + 2 => obtain ⟨j, hj, hk⟩ := ha; exact h5 0 (b + 1) k (g2 j k hk) hc
    | a + 2, 0 => exact h5 (a + 1) 0 k ha (g3 i k hc)
    | a + 2, 1 => obtain ⟨j, hj, hk⟩ := hc; exact h5 (a + 1) 0 k ha (g3 j k hk)
    | a + 2, b + 2 => exact h5 (a + 1) (b + 1) k ha hc
theorem Lies.push (h : Lies w0 w (R :: .sep A :: L)) (i : Nat) (hi : A[i]? = some .emp) : Lies w0 w (.sep (A.set i R) :: L) := by
  obtain ⟨hb, O, S, h1, h2, h3, h4, h5⟩ := h
  obtain ⟨Of, Sf, g1, g2, g3, g4, g5⟩ := h1 1 _ rfl
  have hR := h1 0 _ rfl
  have hlt := (List.getElem?_eq_some_iff.1 hi).1
  refine ⟨hb, fun m k => match m with | 0 => O 0 k ∨ O 1 k | m + 1 => O (m + 2) k, fun m k => match m with | 0 => S 0 k ∨ S 1 k | m + 1 => S (m + 2) k, ?_, ?_, ?_, ?_, ?_⟩
  · intro m R2 hR2
    match m with
    | 0 =>
      simp only [List.getElem?_cons_zero, Option.some.injEq] at hR2
      subst hR2
      refine ⟨fun j k => (j = i ∧ O 0 k) ∨ (j ≠ i ∧ Of j k), fun j k => (j = i ∧ S 0 k) ∨ (j ≠ i ∧ Sf j k), fun j R3 hR3 => ?_, fun j k hk => hk.elim (fun h => .inl h.2) (fun h => .inr (g2 j k h.2)), fun j k hk => hk.elim (fun h => .inl h.2) (fun h => .inr (g3 j k h.2)), ?_, ?_⟩
      · by_cases hj : j = i
        · subst hj
          rw [List.getElem?_set_self hlt] at hR3
          injection hR3 with hR3
          subst hR3
          have e1 : (fun k => (j = j ∧ O 0 k) ∨ (j ≠ j ∧ Of j k)) = O 0 := by funext k; exact propext ⟨fun h => h.elim (fun h => h.2) (fun h => absurd rfl h.1), fun h => .inl ⟨rfl, h⟩⟩
          have e2 : (fun k => (j = j ∧ S 0 k) ∨ (j ≠ j ∧ Sf j k)) = S 0 := by funext k; exact propext ⟨fun h => h.elim (fun h => h.2) (fun h => absurd rfl h.1), fun h => .inl ⟨rfl, h⟩⟩
          show R.holds w (fun k => (j = j ∧ O 0 k) ∨ (j ≠ j ∧ Of j k)) (fun k => (j = j ∧ S 0 k) ∨ (j ≠ j ∧ Sf j k))
          rw [e1, e2]
          exact hR
        · rw [List.getElem?_set_ne (Ne.symm hj)] at hR3
          have e1 : (fun k => (j = i ∧ O 0 k) ∨ (j ≠ i ∧ Of j k)) = Of j := by funext k; exact propext ⟨fun h => h.elim (fun h => absurd h.1 hj) (fun h => h.2), fun h => .inr ⟨hj, h⟩⟩
          have e2 : (fun k => (j = i ∧ S 0 k) ∨ (j ≠ i ∧ Sf j k)) = Sf j := by funext k; exact propext ⟨fun h => h.elim (fun h => absurd h.1 hj) (fun h => h.2), fun h => .inr ⟨hj, h⟩⟩
          show R3.holds w (fun k => (j = i ∧ O 0 k) ∨ (j ≠ i ∧ Of j k)) (fun k => (j = i ∧ S 0 k) ∨ (j ≠ i ∧ Sf j k))
          rw [e1, e2]
          exact g1 j R3 hR3
      · rintro a b k (⟨rfl, ha⟩ | ⟨ha, ha'⟩) (⟨rfl, hc⟩ | ⟨hc, hc'⟩)
        · rfl
        · exact absurd (h4 0 1 k ha (g2 b k hc')) (by omega)
        · exact absurd (h4 1 0 k (g2 a k ha') hc) (by omega)
        · exact g4 a b k ha' hc'
      · rintro a b k (⟨rfl, ha⟩ | ⟨ha, ha'⟩) (⟨rfl, hc⟩ | ⟨hc, hc'⟩)
        · exact h5 0 0 k ha hc
        · exact h5 0 1 k ha (g3 b k hc')
        · exact h5 1 0 k (g2 a k ha') hc
        · exact g5 a b k ha' hc'
    | m + 1 => exact h1 (m + 2) R2 (by simpa using hR2)
  · intro m k hk
    match m with
    | 0 => exact hk.elim (h2 0 k) (h2 1 k)
    | m + 1 => exact h2 (m + 2) k hk
  · intro m k hk
    match m with
    | 0 => exact hk.elim (h3 0 k) (h3 1 k)
    | m + 1 => exact h3 (m + 2) k hk
  · intro a b k ha hc
    match a, b with
    | 0, 0 => rfl
    | 0, b + 1 => exact ha.elim (fun h => absurd (h4 0 (b + 2) k h hc) (by omega)) (fun h => absurd (h4 1 (b + 2) k h hc) (by omega))
    | a + 1, 0 => exact hc.elim (fun h => absurd (h4 (a + 2) 0 k ha h) (by omega)) (fun h => absurd (h4 (a + 2) 1 k ha h) (by omega))
    | a + 1, b + 1 => have := h4 (a + 2) (b + 2) k ha hc; omega
  · intro a b k ha hc
    match a, b with
    | 0, 0 => exact ha.elim (fun h => hc.elim (h5 0 0 k h) (h5 0 1 k h)) (fun h => hc.elim (h5 1 0 k h) (h5 1 1 k h))
    | 0, b + 1 => exact ha.elim (fun h => h5 0 (b + 2) k h hc) (fun h => h5 1 (b + 2) k h hc)
    | a + 1, 0 => exact hc.elim (fun h => h5 (a + 2) 0 k ha h) (fun h => h5 (a + 2) 1 k ha h)
    | a + 1, b + 1 => exact h5 (a + 2) (b + 2) k ha hc
theorem Lies.snoc (h : Lies w0 w (.sep A :: R :: L)) : Lies w0 w (.sep (A ++ [R]) :: L) := Lies.close (A ++ [R]) (by have := h.open_; rwa [List.append_assoc])
end
section
variable {w0 w w' : World} {L : List Res} {m g n c : Nat} {e : TypeId} {cells : List (List Value)} {v : Value}
theorem Lies.rawAt (h : Lies w0 w L) (k : Nat) (hk : L[k]? = some (.row (Kd.raw m) e (.slice (some ⟨g, 0, none⟩) n c) cells)) {i : Nat} {cs : List Value} (hi : cells[i]? = some cs) : cs.length = m ∧ (∀ u ∈ cs, u.oneCell' = true) ∧ ∀ (j : Nat) (u : Value), cs[j]? = some u → w.cell? ⟨g, i * m + j, none⟩ = some u ∧ w.frozen? ⟨g, i * m + j, none⟩ = false := by
  obtain ⟨O, hr⟩ := h.rowed k hk
  have hlt : i < cells.length := (List.getElem?_eq_some_iff.1 hi).1
  have hn : n = cells.length := (Kd.R_reads' hr).1
  obtain ⟨cs', _, hM, hc, hf⟩ := Kd.R_elem hr [] (i : Int) (by omega) (by omega)
  rw [Int.toNat_natCast, List.getD_eq_getElem?_getD, hi] at hM
  rw [Int.toNat_natCast, show (Kd.raw m).sz = m from rfl] at hc hf
  have hcs : cs' = cs := hM.1
  subst hcs
  exact ⟨hM.2.1, hM.2.2, fun j u hu => ⟨hc j u hu, hf j⟩⟩
theorem Lies.rawSet (h : Lies w0 w (.row (Kd.raw m) e (.slice (some ⟨g, 0, none⟩) n c) cells :: L)) {i : Nat} {cs : List Value} (hi : cells[i]? = some cs) (j : Nat) (hj : j < m) (u : Value) (hu : u.oneCell' = true) :
    Lies w0 (w.setCell ⟨g, i * m + j, none⟩ u) (.row (Kd.raw m) e (.slice (some ⟨g, 0, none⟩) n c) (cells.set i (cs.set j u)) :: L) := by
  obtain ⟨h1, h2, h3⟩ := h.rawAt 0 rfl hi
  have hlt : i < cells.length := (List.getElem?_eq_some_iff.1 hi).1
  obtain ⟨ok, hr, hf, ha⟩ := h.grown1
  have hn : n = cells.length := (Kd.R_reads' hr).1
  have e1 : cs.take j ++ [u] ++ cs.drop (j + 1) = cs.set j u := by rw [List.set_eq_take_append_cons_drop, if_pos (by omega), List.append_assoc]; rfl
  obtain ⟨h4, h5⟩ := Kd.R_seg hr (i : Int) (by omega) (by omega) (c := cs) (seg := [u]) (j := j) (x' := cs.set j u) (okp := fun _ => False) h1 (fun j u hu => by rw [Int.toNat_natCast]; exact (h3 j u hu).1) (by show j + 1 ≤ m; omega)
    (by
      show cs.take j ++ [u] ++ cs.drop (j + 1) = cs.set j u ∧ (cs.take j ++ [u] ++ cs.drop (j + 1)).length = m ∧ ∀ u' ∈ cs.take j ++ [u] ++ cs.drop (j + 1), u'.oneCell' = true
      rw [e1]
      exact ⟨rfl, by rw [List.length_set]; exact h1, fun u' hu' => (List.mem_or_eq_of_mem_set hu').elim (h2 u') (fun h => h ▸ hu)⟩) (fun _ hk => hk.elim)
  rw [Int.toNat_natCast, show (Kd.raw m).sz = m from rfl] at h4 h5
  exact ha (w1 := w.setCell ⟨g, i * m + j, none⟩ u) h4 h5
end
def Res.wown (v : Value) (l : List (Int × Value × List Int)) : Res := .sep [.row (Kd.raw 2) 43 v (l.map fun x => [.int .i64 x.1, x.2.1]), .sep (l.map fun x => .row (Kd.int .u8) 5 x.2.1 x.2.2)]
section
variable {β : Type} {f : β → Int × List Int} {w0 w w' : World} {L : List Res} {v : Value} {l : List (Int × Value × List Int)} {xs : List β}
abbrev kWrite (f : β → Int × List Int) : Kd β := Kd.iso (Kd.pair (Kd.int .i64) (Kd.slice 5 (Kd.int .u8))) f
theorem Lies.wopen (h : Lies w0 w (.wown v l :: L)) : Lies w0 w (.row (Kd.raw 2) 43 v (l.map fun x => [.int .i64 x.1, x.2.1]) :: .sep (l.map fun x => .row (Kd.int .u8) 5 x.2.1 x.2.2) :: L) := h.open_
theorem Lies.wclose (h : Lies w0 w (.row (Kd.raw 2) 43 v (l.map fun x => [.int .i64 x.1, x.2.1]) :: .sep (l.map fun x => .row (Kd.int .u8) 5 x.2.1 x.2.2) :: L)) : Lies w0 w (.wown v l :: L) := Lies.close [_, _] h
theorem Lies.wown_reads (h : Lies w0 w L) (i : Nat) (hi : L[i]? = some (.wown v l)) (hx : xs.map f = l.map fun x => (x.1, x.2.2)) : ∃ A c, v = .slice A l.length c ∧ l.length ≤ c ∧ (kWrite f).C w A l.length xs ∧ (0 < l.length → ∃ g, A = some ⟨g, 0, none⟩) := by
  obtain ⟨O, S, Of, Sf, g1, -⟩ := h.at i hi
  have hr : (Kd.raw 2).R 43 w 0 (Of 0) v (l.map fun x => [.int .i64 x.1, x.2.1]) := g1 0 _ rfl
  obtain ⟨Og, Sg, k1, -⟩ := g1 1 _ rfl
  obtain ⟨A, c, rfl, hc, hC⟩ := Kd.R_reads hr
  have hxl : xs.length = l.length := by have := congrArg List.length hx; simpa using this
  rw [List.length_map] at hc hC ⊢
  refine ⟨A, c, rfl, hc, ⟨hxl, hC.2.1, fun h0 => ?_⟩, fun h0 => ?_⟩
  · obtain ⟨ad, rfl, hcc⟩ := hC.2.2 h0
    refine ⟨ad, rfl, fun j p hj => ?_⟩
    have hlt : j < l.length := by have := (List.getElem?_eq_some_iff.1 hj).1; omega
    obtain ⟨cs, hcs, ⟨e1, _, h1⟩, hcell⟩ := hcc j _ (by rw [List.getElem?_map, List.getElem?_eq_getElem hlt]; rfl)
    have hrow : ((l.map fun x => Res.row (Kd.int .u8) 5 x.2.1 x.2.2) : List Res)[j]? = some (.row (Kd.int .u8) 5 l[j].2.1 l[j].2.2) := by rw [List.getElem?_map, List.getElem?_eq_getElem hlt]; rfl
    obtain ⟨A2, c2, e2, hc2, hC2⟩ := Kd.R_reads (k1 j _ hrow)
    have e3 : f p = (l[j].1, l[j].2.2) := by
      have h3 := congrArg (fun z => z[j]?) hx
      simp only [List.getElem?_map, hj, List.getElem?_eq_getElem hlt, Option.map_some, Option.some.injEq] at h3
      exact h3
    refine ⟨cs, hcs, ⟨[.int .i64 l[j].1], [l[j].2.1], e1, ?_, ?_⟩, hcell⟩
    · show [Value.int .i64 l[j].1] = [Value.int .i64 (f p).1]
      rw [e3]
    · show ∃ A c, [l[j].2.1] = [Value.slice A (f p).2.length c] ∧ (f p).2.length ≤ c ∧ (Kd.int .u8).C w A (f p).2.length (f p).2
      rw [e3]
      exact ⟨A2, c2, by rw [e2], hc2, hC2⟩
  · obtain ⟨g, cap, e, -⟩ := Kd.R_form hr (by rw [List.length_map]; exact h0)
    injection e with e
    exact ⟨g, e⟩
theorem S_wown {base : Nat} {okv : Nat → Prop} (hs : Kd.S (kWrite f) 43 w' base okv v xs) : ∃ l, (xs.map f = l.map fun x : Int × Value × List Int => (x.1, x.2.2)) ∧ ∀ S, (Res.wown v l).holds w' (fun k => okv k ∧ base ≤ k ∧ k < w'.heap.size) S := by
  obtain ⟨g, h0, inner, ho, hr⟩ := Kd.S_bound hs
  have hil : inner.length = xs.length * 2 := by have := hr.1; rw [List.length_zipIdx] at this; exact this
  have key : ∀ (j : Nat) (x : β), xs[j]? = some x → ∃ u, inner[j * 2]? = some (.int .i64 (f x).1) ∧ inner[j * 2 + 1]? = some u ∧ (Kd.int .u8).R 5 w' base (fun k => ((okv k ∧ base ≤ k ∧ k < w'.heap.size ∧ ∃ q, q ∈ 43 :: (kWrite f).E ∧ ∃ cells, w'.heap[k]? = some (.cells cells q (0, 0))) ∧ some k ≠ v.ownBlock) ∧ g k = j) u (f x).2 := by
    intro j x hj
    obtain ⟨c0, c1, e, e0, u, e1, hR⟩ := hr.2 j (x, j) (Kd.zip_at hj)
    have e0 : c0 = [.int .i64 (f x).1] := e0
    subst e0 e1
    have hd : ∀ i, i < 2 → inner[j * 2 + i]? = ([.int .i64 (f x).1] ++ [u])[i]? := fun i hi => by
      rw [← e, List.getElem?_take, if_pos (show i < (Kd.tag g (kWrite f)).sz from hi), List.getElem?_drop]
      rfl
    exact ⟨u, hd 0 (by omega), hd 1 (by omega), hR⟩
  let l : List (Int × Value × List Int) := xs.zipIdx.map fun p => ((f p.1).1, inner.getD (p.2 * 2 + 1) (.bool false), (f p.1).2)
  have hlat : ∀ (j : Nat) (x : β), xs[j]? = some x → l[j]? = some ((f x).1, inner.getD (j * 2 + 1) (.bool false), (f x).2) := fun j x hj => by
    show (xs.zipIdx.map _)[j]? = _
    rw [List.getElem?_map, Kd.zip_at hj]
    rfl
  have hll : l.length = xs.length := by show (xs.zipIdx.map _).length = _; rw [List.length_map, List.length_zipIdx]
  refine ⟨l, List.ext_getElem? fun j => ?_, fun S => ?_⟩
  · rw [List.getElem?_map, List.getElem?_map]
    cases hj : xs[j]? with
    | none =>
      have := List.getElem?_eq_none_iff.1 hj
      rw [List.getElem?_eq_none (by omega)]
      rfl
    | some x => rw [hlat j x hj]; rfl
  · refine ⟨fun i k => match i with | 0 => some k = v.ownBlock | 1 => (okv k ∧ base ≤ k ∧ k < w'.heap.size) ∧ some k ≠ v.ownBlock | _ => False, fun _ _ => False, ?_, ?_, fun _ _ h => h.elim, ?_, fun _ _ _ _ h => h⟩
    · intro i R hR
      match i with
      | 0 =>
        simp only [List.getElem?_cons_zero, Option.some.injEq] at hR
        subst hR
        refine ⟨fun k hk => hk.symm, inner, ?_, by show inner.length = (l.map _).length * 2; rw [List.length_map, hll, hil], fun j p hj => ?_⟩
        · rw [List.length_zipIdx] at ho
          rw [List.length_map, hll]
          exact own_weaken ho (Nat.zero_le _)
        · rw [List.getElem?_map] at hj
          obtain ⟨y, hy, rfl⟩ := Option.map_eq_some_iff.1 hj
          have hlt : j < xs.length := by have := (List.getElem?_eq_some_iff.1 hy).1; omega
          have hx := List.getElem?_eq_getElem hlt
          obtain ⟨u, hk0, hk1, hR⟩ := key j _ hx
          rw [hlat j _ hx] at hy
          injection hy with hy
          subst hy
          have e2 : (inner.drop (j * 2)).take 2 = [.int .i64 (f xs[j]).1, u] := by
            apply List.ext_getElem?
            intro i
            rw [List.getElem?_take, List.getElem?_drop]
            match i with
            | 0 => exact hk0
            | 1 => exact hk1
            | i + 2 => rw [if_neg (by omega)]; rfl
          have e3 : inner.getD (j * 2 + 1) (.bool false) = u := by rw [List.getD_eq_getElem?_getD, hk1]; rfl
          have hu : u.oneCell' = true := by
            obtain ⟨A, c, rfl, -⟩ := Kd.R_reads hR
            rfl
          refine ⟨?_, ?_, ?_⟩
          · show (inner.drop (j * 2)).take 2 = _
            rw [e2, e3]
          · show ((inner.drop (j * 2)).take 2).length = 2
            rw [e2]
            rfl
          · show ∀ z ∈ (inner.drop (j * 2)).take 2, z.oneCell' = true
            rw [e2]
            intro z hz
            simp only [List.mem_cons, or_false, List.not_mem_nil] at hz
            rcases hz with rfl | rfl
            · rfl
            · exact hu
      | 1 =>
        simp only [List.getElem?_cons_succ, List.getElem?_cons_zero, Option.some.injEq] at hR
        subst hR
        refine ⟨fun j k => ((okv k ∧ base ≤ k ∧ k < w'.heap.size) ∧ some k ≠ v.ownBlock) ∧ g k = j, fun _ _ => False, fun j R hR => ?_, fun _ _ h => h.1, fun _ _ h => h, fun a b k ha hb => ha.2.symm.trans hb.2, fun _ _ _ _ h => h⟩
        rw [List.getElem?_map] at hR
        obtain ⟨y, hy, rfl⟩ := Option.map_eq_some_iff.1 hR
        have hlt : j < xs.length := by have := (List.getElem?_eq_some_iff.1 hy).1; omega
        have hx := List.getElem?_eq_getElem hlt
        obtain ⟨u, hk0, hk1, hRu⟩ := key j _ hx
        rw [hlat j _ hx] at hy
        injection hy with hy
        subst hy
        have e3 : inner.getD (j * 2 + 1) (.bool false) = u := by rw [List.getD_eq_getElem?_getD, hk1]; rfl
        show (Kd.int .u8).R 5 w' 0 (fun k => ((okv k ∧ base ≤ k ∧ k < w'.heap.size) ∧ some k ≠ v.ownBlock) ∧ g k = j) (inner.getD (j * 2 + 1) (.bool false)) (f xs[j]).2
        rw [e3]
        exact Kd.R_mono (Kd.R_lower hRu (Nat.zero_le _)) (fun k hk => ⟨⟨⟨hk.1.1.1, hk.1.1.2.1, hk.1.1.2.2.1⟩, hk.1.2⟩, hk.2⟩)
      | i + 2 => simp at hR
    · intro i k hk
      match i with
      | 0 =>
        obtain ⟨hk1, hk2, hk3, _⟩ := h0 k hk.symm
        exact ⟨hk1, hk2, hk3⟩
      | 1 => exact hk.1
      | i + 2 => exact hk.elim
    · intro a b k ha hc
      match a, b with
      | 0, 0 => rfl
      | 1, 1 => rfl
      | 0, 1 => exact absurd ha hc.2
      | 1, 0 => exact absurd hc ha.2
      | a + 2, _ => exact ha.elim
      | 0, b + 2 => exact hc.elim
      | 1, b + 2 => exact hc.elim
theorem Lies.fromSR {ki : IntKind} {e : TypeId} {v2 : Value} {rs : List Int} (h : Lies w0 w L) (hb : Below w.heap.size w w') (hs : Kd.S (kWrite f) 43 w' w.heap.size (fun _ => True) v xs) (hr : (Kd.int ki).R e w' w.heap.size (fun _ => True) v2 rs) (he : e ≠ 43 ∧ e ≠ 5) :
    ∃ l, (xs.map f = l.map fun x : Int × Value × List Int => (x.1, x.2.2)) ∧ Lies w0 w' (.wown v l :: .row (Kd.int ki) e v2 rs :: L) := by
  have hs2 : Kd.S (kWrite f) 43 w' w.heap.size (fun k => True ∧ some k ≠ v2.ownBlock) v xs := by
    cases ho : v2.ownBlock with
    | none => exact Kd.S_mono hs (fun k hk => ⟨trivial, fun h => by cases h⟩)
    | some g =>
      obtain ⟨cells, hc⟩ := Kd.R_typed hr g ho
      refine Kd.S_mono (Kd.S_types hs hc (fun q hq => ?_)) (fun k hk => ⟨trivial, fun h => hk.2 (by injection h)⟩)
      simp only [kWrite, Kd.iso, Kd.pair, Kd.slice, Kd.int, Kd.scalar, List.nil_append, List.mem_cons, List.not_mem_nil, or_false] at hq
      rcases hq with rfl | rfl
      · exact fun h => he.1 h.symm
      · exact fun h => he.2 h.symm
  obtain ⟨l, hl, hh⟩ := S_wown hs2
  refine ⟨l, hl, ?_⟩
  have hr2 := Kd.R_tight (d := Kd.int ki) rfl hr
  have key : Lies w0 w' (.sep [.wown v l, .row (Kd.int ki) e v2 rs] :: L) := by
    refine h.new (O := fun k => w.heap.size ≤ k ∧ k < w'.heap.size) (S := fun _ => False) hb ⟨fun i k => match i with | 0 => (True ∧ some k ≠ v2.ownBlock) ∧ w.heap.size ≤ k ∧ k < w'.heap.size | 1 => some k = v2.ownBlock | _ => False, fun _ _ => False, ?_, ?_, fun _ _ h => h, ?_, fun _ _ _ _ h => h⟩ (fun _ h => h) (fun _ h => h.elim) (fun _ _ h => h)
    · intro i R hR
      match i with
      | 0 => simp only [List.getElem?_cons_zero, Option.some.injEq] at hR; subst hR; exact hh _
      | 1 => simp only [List.getElem?_cons_succ, List.getElem?_cons_zero, Option.some.injEq] at hR; subst hR; exact Kd.R_lower hr2 (Nat.zero_le _)
      | i + 2 => simp at hR
    · intro i k hk
      match i with
      | 0 => exact hk.2
      | 1 => exact ⟨Kd.R_base hr k hk.symm, Kd.R_lt hr k hk.symm⟩
      | i + 2 => exact hk.elim
    · intro a b k ha hc
      match a, b with
      | 0, 0 => rfl
      | 1, 1 => rfl
      | 0, 1 => exact absurd hc ha.1.2
      | 1, 0 => exact absurd ha hc.1.2
      | a + 2, _ => exact ha.elim
      | 0, b + 2 => exact hc.elim
      | 1, b + 2 => exact hc.elim
  exact key.open_
theorem Lies.wget {b : Int} {u : Value} {ys : List Int} {i : Nat} (h : Lies w0 w (.wown v l :: L)) (hx : l[i]? = some (b, u, ys)) : Lies w0 w (.row (Kd.int .u8) 5 u ys :: .sep ((l.map fun x => .row (Kd.int .u8) 5 x.2.1 x.2.2).set i .emp) :: .row (Kd.raw 2) 43 v (l.map fun x => [.int .i64 x.1, x.2.1]) :: L) :=
  h.wopen.swap.pull i (by rw [List.getElem?_map, hx]; rfl)
theorem Lies.wput2 {b : Int} {u u2 : Value} {xs ys : List Int} {i : Nat} (h : Lies w0 w (.row (Kd.int .u8) 5 u2 ys :: .sep ((l.map fun x => .row (Kd.int .u8) 5 x.2.1 x.2.2).set i .emp) :: .row (Kd.raw 2) 43 v ((l.map fun x => [.int .i64 x.1, x.2.1]).set i [.int .i64 b, u2]) :: L)) (hx : l[i]? = some (b, u, xs)) : Lies w0 w (.wown v (l.set i (b, u2, ys)) :: L) := by
  have hlt := (List.getElem?_eq_some_iff.1 hx).1
  have h2 := h.push i (by rw [List.getElem?_set_self (by rw [List.length_map]; exact hlt)])
  rw [List.set_set] at h2
  refine Lies.wclose ?_
  rw [List.map_set, List.map_set]
  exact h2.swap
theorem Lies.wcell {g n c : Nat} {b : Int} {u : Value} {ys : List Int} {i : Nat} (h : Lies w0 w (.wown (.slice (some ⟨g, 0, none⟩) n c) l :: L)) (hx : l[i]? = some (b, u, ys)) : w.cell? ⟨g, i * 2, none⟩ = some (.int .i64 b) ∧ w.cell? ⟨g, i * 2 + 1, none⟩ = some u ∧ ∃ A d, u = .slice A ys.length d ∧ ys.length ≤ d ∧ (Kd.int .u8).C w A ys.length ys := by
  have h1 := (h.wopen.rawAt 0 rfl (i := i) (cs := [.int .i64 b, u]) (by rw [List.getElem?_map, hx]; rfl)).2.2
  obtain ⟨O, hO⟩ := (h.wget hx).rowed 0 rfl
  exact ⟨(h1 0 _ rfl).1, (h1 1 _ rfl).1, Kd.R_reads hO⟩
end
end Go.Proofs.Ytpihpabofgmahaa.X
