/- GeomGrows: a greater device has no fewer inodes and no shorter log, and another superblock, at any two numbers of blocks; no condition. -/
import Derived.Test.YtiaefbngegmpaaaUx10
import Derived.Test.YtiaefbngegmpaaaUx11
import Derived.Test.YtiaefbngegmpaaaUx12
import Derived.Test.YtiaefbngegmpaaaPGeom
namespace Go.Proofs.Ytiaefbngegmpaaa.Pure
open Go Go.RowKit Go.Proofs.Ytiaefbngegmpaaa.U Go.Proofs.YtiaefbngegmpaaaW.PrintWords Go.Proofs.YtiaefbngegmpaaaW.PrintLast Go.Proofs.YtiaefbngegmpaaaW.PrintMore
theorem GeomGrows : undercroftlaw06_GeomGrows.Pure := by
  intro a b _ _
  refine ⟨1, ?_⟩
  unfold undercroftlaw06_GeomGrows.f
  rw [alive_true, Option.bind_some, if_pos rfl]
  by_cases h1 : Good (mn a b)
  · rw [layout_good h1, Option.bind_some]
    by_cases h2 : Good (mx a b)
    · rw [layout_good h2, Option.bind_some, if_pos rfl, undercroftlaw06_GeomGrows.j0]
      dsimp only
      rw [if_neg (by decide), encode_good h1, Option.bind_some, encode_good h2, Option.bind_some]
      dsimp only
      have hle : mn a b ≤ mx a b := by unfold mn mx; split <;> split <;> omega
      have hiff : (mn a b = mx a b) ↔ a = b := by unfold mn mx; split <;> split <;> omega
      have g1 := h1.1
      have g2 := h1.2
      have g3 := h2.1
      have g4 := h2.2
      generalize mn a b = x at *
      generalize mx a b = y at *
      have e1 : dtOf x = 3 + (x / 4 + 2 - 1) / 2 + (32 + x / 32) := rfl
      have e2 : dtOf y = 3 + (y / 4 + 2 - 1) / 2 + (32 + y / 32) := rfl
      have e3 : llOf x = 32 + x / 32 := rfl
      have e4 : llOf y = 32 + y / 32 := rfl
      rw [if_pos (by omega), if_pos (by omega), wrap64_id (x := x - dtOf x) (by omega) (by omega), wrap64_id (x := y - dtOf y) (by omega) (by omega), wrap64_id (by omega) (by omega), if_pos (by omega)]
      by_cases he : a = b
      · obtain rfl := hiff.2 he
        rw [if_pos (by simp [he])]
        simp [he]
      · have hne : x ≠ y := fun h => he (hiff.1 h)
        have hs : (strOfNums (sb x)).toList ≠ (strOfNums (sb y)).toList := fun h => hne (sb_inj h1 h2 ((str_inj (sb_u8 x) (sb_u8 y)).1 h))
        rw [if_pos (by rw [beq_eq_false_iff_ne.2 hne, beq_eq_false_iff_ne.2 he]; rfl), beq_eq_false_iff_ne.2 hs, beq_eq_false_iff_ne.2 he]
        rfl
    · rw [layout_bad h2, Option.bind_some, if_pos rfl, undercroftlaw06_GeomGrows.j0]
      rfl
  · rw [layout_bad h1, Option.bind_some]
    by_cases h2 : Good (mx a b)
    · rw [layout_good h2, Option.bind_some, if_neg (by decide), undercroftlaw06_GeomGrows.j0, if_pos rfl]
    · rw [layout_bad h2, Option.bind_some, if_neg (by decide), undercroftlaw06_GeomGrows.j0, if_pos rfl]
end Go.Proofs.Ytiaefbngegmpaaa.Pure
