/- XRef2: what this claim uses. Laid by slim.py (ours). -/
import Derived.Test.YtlbfpjhnpnbikaaKXMap
import Derived.Test.YtlbfpjhnpnbikaaKXFill
namespace Go.Proofs.Ytlbfpjhnpnbikaa.X
set_option linter.unusedVariables false
open Go Go.RowKit
open Go.Proofs.YtlbfpjhnpnbikaaW.PrintWords
def Wel (w : World) (S : Nat → Prop) (c : List Value) (x : Nat × List Int) : Prop := ∃ g o cap, c = [.int .i64 (x.1 : Int), .slice (some ⟨g, o, none⟩) x.2.length cap] ∧ x.2.length ≤ cap ∧ S g ∧ (Kd.int .u8).C w (some ⟨g, o, none⟩) x.2.length x.2
def WRow (w : World) (O S : Nat → Prop) (v : Value) (l : List (Nat × List Int)) : Prop := ∃ cells : List (List Value), (Kd.raw 2).R 66 w 0 O v cells ∧ cells.length = l.length ∧ ∀ (k : Nat) (x : Nat × List Int), l[k]? = some x → ∃ c, cells[k]? = some c ∧ Wel w S c x
theorem Wel.move {w w' : World} {S : Nat → Prop} {c : List Value} {x : Nat × List Int} (h : Wel w S c x) (hm : ∀ k, S k → w'.heap[k]? = w.heap[k]?) : Wel w' S c x := by
  obtain ⟨g, o, cap, h1, h2, h3, h4⟩ := h
  exact ⟨g, o, cap, h1, h2, h3, C_move h4 (hm g h3)⟩
theorem Wel.mono {w : World} {S S' : Nat → Prop} {c : List Value} {x : Nat × List Int} (h : Wel w S c x) (hm : ∀ k, S k → S' k) : Wel w S' c x := by
  obtain ⟨g, o, cap, h1, h2, h3, h4⟩ := h
  exact ⟨g, o, cap, h1, h2, hm g h3, h4⟩
def Res.wrow (v : Value) (l : List (Nat × List Int)) : Res := ⟨fun w O S => WRow w O S v l, fun {w w' O S} h hm _ => by
  obtain ⟨cells, h1, h2, h3⟩ := h
  exact ⟨cells, Kd.R_move h1 (fun k hk => hm k (.inl hk)), h2, fun k x hk => by
    obtain ⟨c, hc, hw⟩ := h3 k x hk
    exact ⟨c, hc, hw.move (fun k hk => hm k (.inr hk))⟩⟩⟩
theorem raw2_at {w : World} {O : Nat → Prop} {g n cap k : Nat} {cells : List (List Value)} {c : List Value} (h : (Kd.raw 2).R 66 w 0 O (.slice (some ⟨g, 0, none⟩) n cap) cells) (hk : cells[k]? = some c) : ∀ (j : Nat) (u : Value), c[j]? = some u → w.cell? ⟨g, k * 2 + j, none⟩ = some u := by
  have hlt : k < cells.length := (List.getElem?_eq_some_iff.1 hk).1
  have hm : n = cells.length := (Kd.R_reads' h).1
  obtain ⟨cs, _, hM, hc, _⟩ := Kd.R_elem h [] (k : Int) (by omega) (by omega)
  rw [Int.toNat_natCast, List.getD_eq_getElem?_getD, hk] at hM
  rw [Int.toNat_natCast, show (Kd.raw 2).sz = 2 from rfl] at hc
  have hcs : cs = c := hM.1
  subst hcs
  exact hc
section
variable {w0 w : World} {L : List Res} {p n : Nat} {s : DS} {v : Value} {l : List (Nat × List Int)}
theorem Lies.wform (h : Lies w0 w L) (i : Nat) (hi : L[i]? = some (.wrow v l)) : ∃ A c, v = .slice A l.length c ∧ l.length ≤ c ∧ (0 < l.length → ∃ g, A = some ⟨g, 0, none⟩) := by
  obtain ⟨O, S, cells, h1, h2, h3⟩ := h.at i hi
  rcases Nat.eq_zero_or_pos l.length with h0 | h0
  · obtain ⟨A, c, e, hc, -⟩ := Kd.R_reads h1
    rw [h2] at e hc
    exact ⟨A, c, e, hc, fun h => absurd h (by omega)⟩
  · obtain ⟨g, c, e, -⟩ := Kd.R_form h1 (by omega)
    rw [e] at h1
    have := (Kd.R_reads' h1).2.1
    rw [h2] at e this
    exact ⟨_, c, e, by have h5 := (Kd.R_reads' h1).1; omega, fun _ => ⟨g, rfl⟩⟩
theorem Lies.wat {g m c : Nat} (h : Lies w0 w L) (i : Nat) (hi : L[i]? = some (.wrow (.slice (some ⟨g, 0, none⟩) m c) l)) {k : Nat} {x : Nat × List Int} (hk : l[k]? = some x) : ∃ g1 o1 c1, w.cell? ⟨g, k * 2, none⟩ = some (.int .i64 (x.1 : Int)) ∧ w.cell? ⟨g, k * 2 + 1, none⟩ = some (.slice (some ⟨g1, o1, none⟩) x.2.length c1) ∧ x.2.length ≤ c1 ∧ (Kd.int .u8).C w (some ⟨g1, o1, none⟩) x.2.length x.2 := by
  obtain ⟨O, S, cells, h1, h2, h3⟩ := h.at i hi
  obtain ⟨cs, hc, g1, o1, c1, rfl, hl, -, hC⟩ := h3 k x hk
  have h4 := raw2_at h1 hc
  exact ⟨g1, o1, c1, h4 0 _ rfl, h4 1 _ rfl, hl, hC⟩
theorem Lies.wnil (h : Lies w0 w L) : Lies w0 w (.wrow (.slice none 0 0) [] :: L) :=
  h.new (O := fun _ => False) (S := fun _ => False) (Below.refl _ _) ⟨[], Kd.R_nil _ _ _ _ _, rfl, fun k x hk => by simp at hk⟩ (fun _ h => h.elim) (fun _ h => h.elim) (fun _ h => h.elim)
theorem Lies.wadd {g m c b : Nat} {xs : List Int} (h : Lies w0 w (.wrow v l :: .row (Kd.int .u8) 5 (.slice (some ⟨g, 0, none⟩) m c) xs :: L)) : m = xs.length ∧ ∃ (cells : List (List Value)) (ok : Nat → Prop), (Kd.raw 2).R 66 w 0 ok v cells ∧ cells.length = l.length ∧ (∀ k, w.heap.size ≤ k → ok k) ∧
    ∀ {v1 : Value} {w1 : World}, (Kd.raw 2).R 66 w1 0 ok v1 (cells ++ [[.int .i64 (b : Int), .slice (some ⟨g, 0, none⟩) m c]]) → w.grownBy w1 v.ownBlock → Lies w0 w1 (.wrow v1 (l ++ [(b, xs)]) :: L) := by
  obtain ⟨O, S, ⟨Of, Sf, g1, g2, g3, g4, g5⟩, h2, h3, h4, h5⟩ := (Lies.close [.wrow v l, .row (Kd.int .u8) 5 (.slice (some ⟨g, 0, none⟩) m c) xs] h).step
  obtain ⟨cells, r1, r2, r3⟩ : WRow w (Of 0) (Sf 0) v l := g1 0 _ rfl
  have hr2 : (Kd.int .u8).R 5 w 0 (Of 1) (.slice (some ⟨g, 0, none⟩) m c) xs := g1 1 _ rfl
  obtain ⟨e1, e2, e3⟩ := Kd.R_reads' hr2
  have hg1 : Of 1 g := hr2.1 g rfl
  refine ⟨e1, cells, fun k => Of 0 k ∨ w.heap.size ≤ k, Kd.R_mono r1 (fun _ h => .inl h), r2, fun _ h => .inr h, ?_⟩
  intro v1 w1 hr hg
  have hbk : ∀ k, k < w.heap.size → ¬ Of 0 k → w1.heap[k]? = w.heap[k]? := fun k hk hn => hg.block k hk (fun e => hn (r1.1 k e.symm))
  refine h5 (R' := .wrow v1 (l ++ [(b, xs)])) (O' := fun k => (Of 0 k ∨ w.heap.size ≤ k) ∧ k < w1.heap.size) (S' := fun k => Sf 0 k ∨ k = g) ((Turn.grown hg).mono (fun k hk => g2 0 k (r1.1 k (Eq.symm hk)))) ?_ (fun k hk => hk.1.imp (g2 0 k) (fun h => ⟨h, hk.2⟩)) ?_ ?_
  · refine ⟨cells ++ [[.int .i64 (b : Int), .slice (some ⟨g, 0, none⟩) m c]], Kd.R_mono (Kd.R_bound hr) (fun k hk => ⟨hk.1, hk.2.2.1⟩), by rw [List.length_append, List.length_append, r2]; rfl, fun k x hk => ?_⟩
    by_cases hlt : k < l.length
    · rw [List.getElem?_append_left hlt] at hk
      obtain ⟨cs, hc, hw⟩ := r3 k x hk
      exact ⟨cs, by rw [List.getElem?_append_left (by omega)]; exact hc, (hw.move (fun k hk => hbk k (h3 k (g3 0 k hk)) (fun ho => g5 0 0 k ho hk))).mono (fun k hk => .inl hk)⟩
    · rw [List.getElem?_append_right (by omega)] at hk
      have hk0 : k - l.length = 0 := by
        rcases Nat.eq_zero_or_pos (k - l.length) with h | h
        · exact h
        · rw [List.getElem?_eq_none (by simp; omega)] at hk
          cases hk
      rw [hk0] at hk
      simp only [List.getElem?_cons_zero, Option.some.injEq] at hk
      subst hk
      refine ⟨_, by rw [List.getElem?_append_right (by omega), show k - cells.length = 0 from by omega]; rfl, g, 0, c, by rw [e1], by rw [← e1]; omega, .inr rfl, ?_⟩
      exact C_move e3 (hbk g (h2 g (g2 1 g hg1)).2 (fun ho => absurd (g4 0 1 g ho hg1) (by omega)))
  · intro k hk
    rcases hk with hk | rfl
    · exact .inl (g3 0 k hk)
    · exact .inr (.inl (g2 1 k hg1))
  · intro k hk hk2
    rcases hk2 with hk2 | rfl
    · rcases hk.1 with h | h
      · exact g5 0 0 k h hk2
      · exact absurd (h3 k (g3 0 k hk2)) (by omega)
    · rcases hk.1 with h | h
      · exact absurd (g4 0 1 k h hg1) (by omega)
      · exact absurd (h2 k (g2 1 k hg1)).2 (by omega)
end
section
variable {w0 w : World} {L : List Res} {p n : Nat} {s : DS} {v : Value} {l : List (Nat × List Int)}
def Res.rdisk (p n : Nat) (s : DS) : Res := .ex fun v : Value × Value × Value => .sep [.box p #[v.1, v.2.1, v.2.2, .bool s.set, .int .i64 (s.left : Int)] 75, .row (Kd.int .u8) 5 v.1 s.bytes, .wrow v.2.1 s.pend, .wrow v.2.2 s.ghosts, .fact (s.Ok n)]
theorem Lies.rdisk (h : Lies w0 w (.rdisk p n s :: L)) : ∃ v0 v1 v2, s.Ok n ∧ Lies w0 w (.box p #[v0, v1, v2, .bool s.set, .int .i64 (s.left : Int)] 75 :: .row (Kd.int .u8) 5 v0 s.bytes :: .wrow v1 s.pend :: .wrow v2 s.ghosts :: L) := by
  obtain ⟨v, h⟩ := h.exi
  have h2 := h.open_
  refine ⟨v.1, v.2.1, v.2.2, h2.facts 4 rfl, ?_⟩
  have h3 : Lies w0 w ([.box p #[v.1, v.2.1, v.2.2, .bool s.set, .int .i64 (s.left : Int)] 75, .row (Kd.int .u8) 5 v.1 s.bytes, .wrow v.2.1 s.pend, .wrow v.2.2 s.ghosts] ++ .fact (s.Ok n) :: L) := h2
  have h4 := (h3.close _).swap.tail
  exact Lies.open_ h4
theorem Lies.mkRdisk {v0 v1 v2 : Value} (hok : s.Ok n) (h : Lies w0 w (.box p #[v0, v1, v2, .bool s.set, .int .i64 (s.left : Int)] 75 :: .row (Kd.int .u8) 5 v0 s.bytes :: .wrow v1 s.pend :: .wrow v2 s.ghosts :: L)) : Lies w0 w (.rdisk p n s :: L) := by
  have h3 : Lies w0 w (.sep [.box p #[v0, v1, v2, .bool s.set, .int .i64 (s.left : Int)] 75, .row (Kd.int .u8) 5 v0 s.bytes, .wrow v1 s.pend, .wrow v2 s.ghosts] :: L) := Lies.close [_, _, _, _] h
  have h4 := Lies.open_ (Lies.swap (h3.andFact hok))
  have h5 : Lies w0 w (.sep [.box p #[v0, v1, v2, .bool s.set, .int .i64 (s.left : Int)] 75, .row (Kd.int .u8) 5 v0 s.bytes, .wrow v1 s.pend, .wrow v2 s.ghosts, .fact (s.Ok n)] :: L) := Lies.close [_, _, _, _, _] h4
  exact Lies.toEx (v0, v1, v2) h5
theorem Lies.rdisk_ok (h : Lies w0 w L) (i : Nat) (hi : L[i]? = some (.rdisk p n s)) : s.Ok n := by
  have h2 := (h.sel [i] (by simp))
  have h3 : Lies w0 w (.rdisk p n s :: []) := by
    have e : [i].map (fun i => L.getD i Res.emp) = [.rdisk p n s] := by simp [List.getD_eq_getElem?_getD, hi]
    rw [e] at h2
    exact h2
  obtain ⟨_, _, _, hok, _⟩ := h3.rdisk
  exact hok
end
end Go.Proofs.Ytlbfpjhnpnbikaa.X
