/- DiskRuns: what a disk and the reference answer; no condition on blocks or deeds. -/
import Derived.Test.YtbpkjkdbijifbaaRows
import Derived.Test.YtbpkjkdbijifbaaUx29
import Derived.Test.YtbpkjkdbijifbaaPureDiskRuns
import Derived.Test.YtbpkjkdbijifbaaZOpen
import Derived.WalkKit
import Derived.ProofKit
import Derived.OpenShut
import Derived.ShutString
import Derived.ChangeOld
import Derived.Below
import Derived.SizedLaws
namespace Go.Proofs.Ytbpkjkdbijifbaa.diskRuns
open Go Go.ChangeShapes Go.WideShapes Go.ChangeAt Go.RowKit Go.Proofs.YtbpkjkdbijifbaaW.PrintWords
open Go.ChangeMaps (open_string shut_string)
set_option linter.unusedVariables false
set_option linter.unusedSimpArgs false
theorem own : ownKnob Try.prog.godebug = none := by kernel_rfl
theorem laidOut : laidOutB Try.prog = true := by kernel_rfl
set_option maxRecDepth 100000 in
theorem lifted (os : Os) (started : os.Started) (H : Type) (enc : TypeId × Value → H) :
    ReturnsInHanded {} Try.checked os 8 .any (Rows.diskRunsSpec.pre6 enc Try.prog Try.f8 Rows.diskRunsRow.domain false) (Rows.diskRunsSpec.post enc Try.prog Try.f8 false true false false) := by
  refine returnsInHanded_of_change_sized (C := Try.checked) own started (by kernel_rfl) Try.func8
    (ChangeSpec.witness6 (enc := enc) (C := Try.checked) false ⟨#[], #[.int .i64 0, .slice none 0 0], []⟩ 8 (by kernel_rfl) (by kernel_rfl) (by kernel_rfl) (by kernel_rfl)) ?_
  intro W base args ds gs before hval0 hW hcnd hsz0 _
  have hsz : (DataW.weightsEach Try.prog (Try.f8.params.toList ++ Rows.diskRunsSpec.plain.varTypes Try.prog) (ds ++ gs)).all (· ≤ reachBytes) = true := hsz0
  have hval : ∀ (j : Nat) t v, Try.f8.params[j]? = some t → args[j]? = some v → Value.okWide Try.prog W .any base t v := hval0
  have hW' := hW
  obtain ⟨p, q, hA0, hV, rfl, hfz, hnd⟩ := hW
  have hA : DataW.TrodAll enc Try.prog W 0 (fun _ => true) true Try.f8.params.toList args.toList ds p := hA0
  rw [Try.params8] at hA hval hsz
  obtain ⟨v0, vs0, d0, ds0, p0, q0, hargs, rfl, rfl, h0, r0⟩ := trodAll_cons hA
  obtain ⟨v1, vs1, d1, ds1, p1, q1, rfl, rfl, rfl, h1, r1⟩ := trodAll_cons r0
  obtain ⟨rfl, rfl, rfl⟩ := trodAll_nil r1
  obtain rfl : args = #[v0, v1] := by cases args; simp_all
  obtain ⟨rfl, rfl⟩ := trodVars_none hV
  obtain ⟨a0, rfl, rfl, rfl, w0⟩ := open_int Try.underlying3 (hval 0 3 v0 rfl rfl) h0
  have hwt1 := Y.weights_at hsz (j := 1) (t := 45) rfl rfl
  have lt1 : ∀ x ∈ p1, x.block < W.heap.size := by obtain ⟨m, hm⟩ := h1; exact DataW.trod_lt m _ _ _ hm
  have k1 := h1
  obtain ⟨A1, len1, cap1, rfl⟩ := okWide_slice Try.underlying45 (hval 1 45 v1 rfl rfl)
  obtain ⟨fuel1, hf1⟩ := h1
  obtain ⟨x1, hK1, hwf1⟩ := (show Y.Opens Try.prog 45 _ _ from (Y.Opens.slice Try.underlying45 (by kernel_rfl) _ (by kernel_rfl) (Y.Opens.iso (Y.Opens.struct Try.underlying24 (by kernel_rfl) (Y.OpensF.cons rfl (Y.Opens.int Try.underlying3 (by kernel_rfl)) (Y.OpensF.cons rfl (Y.Opens.int Try.underlying3 (by kernel_rfl)) (Y.OpensF.cons rfl (Y.Opens.int Try.underlying5 (by kernel_rfl)) (Y.OpensF.cons rfl (Y.Opens.bool Try.underlying4 (by kernel_rfl)) (Y.OpensF.one rfl (Y.Opens.slice Try.underlying22 (by kernel_rfl) _ (by kernel_rfl) (Y.Opens.int Try.underlying5 (by kernel_rfl))))))))) (fun x : U.S24 => (x.f0, x.f1, x.f2, x.f3, x.f4)) (fun x => ⟨x.1, x.2.1, x.2.2.1, x.2.2.2.1, x.2.2.2.2⟩) (fun _ => rfl)))).opens (cs := [.slice A1 len1 cap1]) hf1 hwt1
  obtain ⟨A1_, c1_, he1, hc1, hr1⟩ := hK1
  simp only [List.cons.injEq, Value.slice.injEq, and_true] at he1
  obtain ⟨rfl, rfl, rfl⟩ := he1
  obtain ⟨hw1, y1⟩ := hwf1
  have h := Pure.DiskRuns a0 x1 w0 hw1 y1
  refine (U.undercroftlaw02_DiskRuns.calls (a0 := a0) (A1 := A1) (c1 := cap1) (l1 := x1) (r := true) (w := W) (hr1 := hr1) (hc1 := hc1) (h := h)).mono fun e W' ⟨he, bel0⟩ => ?_
  have bel : Below W.heap.size W W' := bel0
  subst he
  exact ⟨_, rfl, _, _, _, [], _, [], hW', trodAll_mk1 (shut_bool Try.underlying4 _), (trodAll_cons_mk (shut_int Try.underlying3 w0) (trodAll_cons_mk (Below.trod laidOut (by kernel_rfl) (of_decide_eq_true (by kernel_rfl)) k1 bel lt1) trodAll_mk0)), rfl, bel.frame _, fun h => by cases h⟩
theorem over : Rows.diskRunsRow.holds Try.pinned (OpenSpec.ofChange Rows.diskRunsSpec) :=
  OpenClaim.holds_of_wide 8 Try.f8 rfl rfl rfl rfl rfl rfl rfl ⟨rfl, rfl, rfl, rfl, rfl⟩ rfl rfl rfl rfl rfl (by kernel_rfl) Try.func8 (by kernel_rfl)
    (of_decide_eq_true (by kernel_rfl)) (by unfold Func.isWrapper; first | (rw [if_pos (by decide +kernel)]; kernel_rfl) | (rw [if_neg (by decide +kernel)]; exact ⟨rfl, rfl⟩))
    (fun os started H enc _ => lifted os started H enc)
theorem proved : Rows.DiskRunsSaid := over
#print axioms proved
end Go.Proofs.Ytbpkjkdbijifbaa.diskRuns
namespace Go.Proofs.Ytbpkjkdbijifbaa
/-- The row, under a short name, for the claim. -/
theorem diskRuns_holds : Rows.DiskRunsSaid := diskRuns.proved
end Go.Proofs.Ytbpkjkdbijifbaa
