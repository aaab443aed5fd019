/- DiskRuns: what a disk and the reference answer; no condition on blocks or deeds. -/
import Derived.Test.YtbpkjkdbijifbaaUx25
import Derived.Test.YtbpkjkdbijifbaaUx29
namespace Go.Proofs.Ytbpkjkdbijifbaa.Pure
open Go Go.RowKit Go.Proofs.Ytbpkjkdbijifbaa.U Go.Proofs.YtbpkjkdbijifbaaW.PrintWords Go.Proofs.YtbpkjkdbijifbaaW.PrintLast Go.Proofs.YtbpkjkdbijifbaaW.PrintMore
set_option linter.unusedVariables false
set_option linter.unusedSimpArgs false
theorem okD_of {l : List S24} (h : ∀ x ∈ l, (Lit.int .i64 x.f0).wf = true ∧ (Lit.int .i64 x.f1).wf = true ∧ (Lit.int .u8 x.f2).wf = true ∧ True ∧ (∀ y ∈ x.f4, (Lit.int .u8 y).wf = true) ∧ x.f4.length * 1 ≤ 140737488351232) : okD l = true := by
  unfold okD
  refine List.all_eq_true.2 (fun x hx => ?_)
  obtain ⟨-, h1, -, -, -, h2⟩ := h x hx
  simp [Lit.wf, IntKind.min, IntKind.max, IntKind.bits, IntKind.signed] at h1
  rw [Bool.and_eq_true]
  exact ⟨decide_eq_true (by omega), decide_eq_true (by omega)⟩
theorem DiskRuns (a0 : Int) (l1 : List S24) (w0 : (Lit.int .i64 a0).wf = true)
    (hw1 : ∀ x ∈ l1, (Lit.int .i64 x.f0).wf = true ∧ (Lit.int .i64 x.f1).wf = true ∧ (Lit.int .u8 x.f2).wf = true ∧ True ∧ (∀ y ∈ x.f4, (Lit.int .u8 y).wf = true) ∧ x.f4.length * 1 ≤ 140737488351232) (y1 : l1.length * 48 ≤ 140737488351232) : undercroftlaw02_DiskRuns.f a0 l1 = some true := by
  unfold undercroftlaw02_DiskRuns.f
  rw [okD_of hw1]
  rfl
end Go.Proofs.Ytbpkjkdbijifbaa.Pure
