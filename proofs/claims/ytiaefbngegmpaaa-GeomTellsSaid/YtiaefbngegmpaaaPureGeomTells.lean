/- GeomTells: geometries, superblocks and places are what the document says, at any number of blocks, any geometry and any place; no condition. -/
import Derived.Test.YtiaefbngegmpaaaUx6
import Derived.Test.YtiaefbngegmpaaaUx7
import Derived.Test.YtiaefbngegmpaaaUx12
import Derived.Test.YtiaefbngegmpaaaUx13
import Derived.Test.YtiaefbngegmpaaaUx14
import Derived.Test.YtiaefbngegmpaaaPGeom
namespace Go.Proofs.Ytiaefbngegmpaaa.Pure
open Go Go.RowKit Go.Proofs.Ytiaefbngegmpaaa.U Go.Proofs.YtiaefbngegmpaaaW.PrintWords Go.Proofs.YtiaefbngegmpaaaW.PrintLast Go.Proofs.YtiaefbngegmpaaaW.PrintMore
set_option linter.unusedVariables false
set_option linter.unusedSimpArgs false
theorem is_two (a b c d e f g h : Int) : geom_is.f a b c d e f g h = some false ∨ (Good a ∧ b = a / 4 ∧ c = 1 ∧ d = 2 ∧ e = 3 ∧ f = lgOf a ∧ g = llOf a ∧ h = dtOf a) := by
  by_cases hg : Good a
  · unfold geom_is.f
    rw [layout_good hg, Option.bind_some, if_pos rfl]
    dsimp only
    by_cases hq : b = a / 4 ∧ c = 1 ∧ d = 2 ∧ e = 3 ∧ f = lgOf a ∧ g = llOf a ∧ h = dtOf a
    · exact .inr ⟨hg, hq⟩
    · left
      congr 1
      rw [Bool.eq_false_iff]
      intro hn
      simp only [Bool.and_eq_true, beq_iff_eq] at hn
      exact hq hn.2
  · left
    unfold geom_is.f
    rw [layout_bad hg, Option.bind_some, if_neg (by decide)]
theorem where_two (a b c d e f g h i : Int) (k : Nat) (hk : 0 < k) : ∃ r, geom_Where.f a b c d e f g h i = some r ∧ undercroftref06_Where.f k a b c d e f g h i = some r := by
  obtain ⟨k, rfl⟩ : ∃ m, k = m + 1 := ⟨k - 1, by omega⟩
  unfold geom_Where.f undercroftref06_Where.f
  rw [refIs_eq]
  rcases is_two a b c d e f g h with hi | ⟨hg, rfl, rfl, rfl, rfl, rfl, rfl, rfl⟩
  · rw [hi, Option.bind_some, Option.bind_some, if_neg (fun h => by cases h.1), if_neg (by decide), undercroftref06_Where.j0, if_pos rfl]
    exact ⟨_, rfl, rfl⟩
  · rw [is_good hg, Option.bind_some, Option.bind_some, if_pos rfl]
    by_cases h0 : i < 0
    · rw [if_neg (fun h => by have := h.2.1; omega), if_pos h0, undercroftref06_Where.j0, if_pos rfl]
      exact ⟨_, rfl, rfl⟩
    · rw [if_neg h0]
      by_cases h1 : i < a
      · rw [if_pos ⟨rfl, by omega, h1⟩, decide_eq_false (by omega), undercroftref06_Where.j0, if_neg (by decide)]
        refine ⟨_, rfl, ?_⟩
        have g1 := hg.1
        have g2 := hg.2
        have e1 : lgOf a = 3 + (a / 4 + 2 - 1) / 2 := rfl
        have e2 : dtOf a = 3 + (a / 4 + 2 - 1) / 2 + (32 + a / 32) := rfl
        unfold whereOf
        by_cases q1 : i < 3
        · have w : wrap64 (i + 1) = i + 1 := wrap64_id (by omega) (by omega)
          simp only [if_pos q1, w]
        · by_cases q2 : i < lgOf a
          · simp only [if_neg q1, if_pos q2]
          · by_cases q3 : i < dtOf a
            · simp only [if_neg q1, if_neg q2, if_pos q3]
            · simp only [if_neg q1, if_neg q2, if_neg q3]
      · rw [if_neg (fun h => h1 h.2.2), decide_eq_true (by omega), undercroftref06_Where.j0, if_pos rfl]
        exact ⟨_, rfl, rfl⟩
theorem inode_two (a b c d e f g h i : Int) : ∃ r, geom_Inode.f a b c d e f g h i = some r ∧ undercroftref06_Inode.f a b c d e f g h i = some r := by
  have he : undercroftref06_Inode.f a b c d e f g h i = geom_Inode.f a b c d e f g h i := by
    unfold undercroftref06_Inode.f geom_Inode.f
    rw [refIs_eq]
  rw [he]
  have : ∃ t, geom_is.f a b c d e f g h = some t := by
    rcases is_two a b c d e f g h with hi | ⟨hg, rfl, rfl, rfl, rfl, rfl, rfl, rfl⟩
    · exact ⟨_, hi⟩
    · exact ⟨_, is_good hg⟩
  obtain ⟨t, ht⟩ := this
  unfold geom_Inode.f
  rw [ht, Option.bind_some]
  split
  · split
    · exact ⟨_, rfl, rfl⟩
    · split <;> exact ⟨_, rfl, rfl⟩
  · exact ⟨_, rfl, rfl⟩
theorem encode_two (a b c d e f g h : Int) (k : Nat) (hk : 400 ≤ k) : ∃ r, geom_Encode.f a b c d e f g h = some r ∧ undercroftref06_Encode.f k a b c d e f g h = some r := by
  rcases is_two a b c d e f g h with hi | ⟨hg, rfl, rfl, rfl, rfl, rfl, rfl, rfl⟩
  · unfold geom_Encode.f undercroftref06_Encode.f
    rw [refIs_eq, hi, Option.bind_some, Option.bind_some, if_neg (by decide), if_neg (by decide)]
    exact ⟨_, rfl, rfl⟩
  · exact ⟨_, encode_good hg, refEncode_good hg k hk⟩
theorem tells_j2 (a b c d e f g h i : Int) (k : Nat) (hk : 500 ≤ k) : undercroftlaw06_GeomTells.j2 k i a b c d e f g h = some true := by
  obtain ⟨k, rfl⟩ : ∃ m, k = m + 1 := ⟨k - 1, by omega⟩
  obtain ⟨r1, h1, h2⟩ := encode_two a b c d e f g h k (by omega)
  obtain ⟨r2, h3, h4⟩ := inode_two a b c d e f g h i
  obtain ⟨r3, h5, h6⟩ := where_two a b c d e f g h i k (by omega)
  rw [undercroftlaw06_GeomTells.j2, h1, Option.bind_some, h2, Option.bind_some, h3, Option.bind_some, h4, Option.bind_some, if_pos rfl, if_pos rfl, if_pos rfl, if_pos rfl, if_pos rfl, h5, Option.bind_some, h6, Option.bind_some, beq_self_eq_true]
theorem GeomTells (blocks a b c d e f g h i : Int) (_ : (Lit.int .i64 blocks).wf = true) (_ : (Lit.int .i64 a).wf = true) (_ : (Lit.int .i64 b).wf = true) (_ : (Lit.int .i64 c).wf = true) (_ : (Lit.int .i64 d).wf = true) (_ : (Lit.int .i64 e).wf = true) (_ : (Lit.int .i64 f).wf = true) (_ : (Lit.int .i64 g).wf = true) (_ : (Lit.int .i64 h).wf = true) (_ : (Lit.int .i64 i).wf = true) : ∃ k, undercroftlaw06_GeomTells.f k blocks a b c d e f g h i = some true := by
  refine ⟨600, ?_⟩
  unfold undercroftlaw06_GeomTells.f
  have hL : ∃ r, geom_Layout.f blocks = some r := by
    by_cases hg : Good blocks
    · exact ⟨_, layout_good hg⟩
    · exact ⟨_, layout_bad hg⟩
  obtain ⟨r, hr⟩ := hL
  have hj1 : ∀ v p0 p1 p2 p3 p4 p5 p6 p7, undercroftlaw06_GeomTells.j1 598 i v a b c d e f g h p0 p1 p2 p3 p4 p5 p6 p7 = some true := by
    intro v p0 p1 p2 p3 p4 p5 p6 p7
    rw [undercroftlaw06_GeomTells.j1]
    split <;> exact tells_j2 _ _ _ _ _ _ _ _ _ _ (by decide)
  have hj0 : ∀ s p0 p1 p2 p3 p4 p5 p6 p7, undercroftlaw06_GeomTells.j0 600 i s false a b c d e f g h p0 p1 p2 p3 p4 p5 p6 p7 = some true := by
    intro s p0 p1 p2 p3 p4 p5 p6 p7
    have hj : ∀ v, undercroftlaw06_GeomTells.j1 599 i v a b c d e f g h p0 p1 p2 p3 p4 p5 p6 p7 = some true := by
      intro v
      rw [undercroftlaw06_GeomTells.j1]
      split <;> exact tells_j2 _ _ _ _ _ _ _ _ _ _ (by decide)
    rw [undercroftlaw06_GeomTells.j0, if_neg (by decide)]
    split <;> exact hj _
  rw [alive_true, Option.bind_some, if_pos rfl, refLayout_eq, hr, Option.bind_some, Option.bind_some]
  have hne : (r.2.2.2.2.2.2.2.2 != r.2.2.2.2.2.2.2.2) = false := bne_self_eq_false _
  rw [hne]
  simp only [beq_self_eq_true, Bool.not_true, Bool.or_false, Bool.false_eq_true, if_false]
  exact hj0 _ _ _ _ _ _ _ _ _
end Go.Proofs.Ytiaefbngegmpaaa.Pure
