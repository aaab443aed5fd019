/- DiskTwins: a copy of a disk goes on just as the disk would have; no condition. -/
import Derived.Test.YtbpkjkdbijifbaaRows
import Derived.Test.YtbpkjkdbijifbaaUx29
import Derived.Test.YtbpkjkdbijifbaaPureDiskTwins
import Derived.Test.YtbpkjkdbijifbaaZOpen
import Derived.WalkKit
import Derived.ProofKit
import Derived.OpenShut
import Derived.ShutString
import Derived.ChangeOld
import Derived.Below
import Derived.SizedLaws
namespace Go.Proofs.Ytbpkjkdbijifbaa.diskTwins
open Go Go.ChangeShapes Go.WideShapes Go.ChangeAt Go.RowKit Go.Proofs.YtbpkjkdbijifbaaW.PrintWords
open Go.ChangeMaps (open_string shut_string)
set_option linter.unusedVariables false
set_option linter.unusedSimpArgs false
theorem own : ownKnob Try.prog.godebug = none := by kernel_rfl
theorem laidOut : laidOutB Try.prog = true := by kernel_rfl
set_option maxRecDepth 100000 in
theorem lifted (os : Os) (started : os.Started) (H : Type) (enc : TypeId × Value → H) :
    ReturnsInHanded {} Try.checked os 10 .any (Rows.diskTwinsSpec.pre6 enc Try.prog Try.f10 Rows.diskTwinsRow.domain false) (Rows.diskTwinsSpec.post enc Try.prog Try.f10 false true false false) := by
  refine returnsInHanded_of_change_sized (C := Try.checked) own started (by kernel_rfl) Try.func10
    (ChangeSpec.witness6 (enc := enc) (C := Try.checked) false ⟨#[], #[.slice none 0 0, .slice none 0 0], []⟩ 8 (by kernel_rfl) (by kernel_rfl) (by kernel_rfl) (by kernel_rfl)) ?_
  intro W base args ds gs before hval0 hW hcnd hsz0 _
  have hsz : (DataW.weightsEach Try.prog (Try.f10.params.toList ++ Rows.diskTwinsSpec.plain.varTypes Try.prog) (ds ++ gs)).all (· ≤ reachBytes) = true := hsz0
  have hval : ∀ (j : Nat) t v, Try.f10.params[j]? = some t → args[j]? = some v → Value.okWide Try.prog W .any base t v := hval0
  have hW' := hW
  obtain ⟨p, q, hA0, hV, rfl, hfz, hnd⟩ := hW
  have hA : DataW.TrodAll enc Try.prog W 0 (fun _ => true) true Try.f10.params.toList args.toList ds p := hA0
  rw [Try.params10] at hA hval hsz
  obtain ⟨v0, vs0, d0, ds0, p0, q0, hargs, rfl, rfl, h0, r0⟩ := trodAll_cons hA
  obtain ⟨v1, vs1, d1, ds1, p1, q1, rfl, rfl, rfl, h1, r1⟩ := trodAll_cons r0
  obtain ⟨rfl, rfl, rfl⟩ := trodAll_nil r1
  obtain rfl : args = #[v0, v1] := by cases args; simp_all
  obtain ⟨rfl, rfl⟩ := trodVars_none hV
  have hwt0 := Y.weights_at hsz (j := 0) (t := 45) rfl rfl
  have lt0 : ∀ x ∈ p0, x.block < W.heap.size := by obtain ⟨m, hm⟩ := h0; exact DataW.trod_lt m _ _ _ hm
  have k0 := h0
  obtain ⟨A0, len0, cap0, rfl⟩ := okWide_slice Try.underlying45 (hval 0 45 v0 rfl rfl)
  obtain ⟨fuel0, hf0⟩ := h0
  obtain ⟨x0, hK0, hwf0⟩ := (show Y.Opens Try.prog 45 _ _ from (Y.Opens.slice Try.underlying45 (by kernel_rfl) _ (by kernel_rfl) (Y.Opens.iso (Y.Opens.struct Try.underlying24 (by kernel_rfl) (Y.OpensF.cons rfl (Y.Opens.int Try.underlying3 (by kernel_rfl)) (Y.OpensF.cons rfl (Y.Opens.int Try.underlying3 (by kernel_rfl)) (Y.OpensF.cons rfl (Y.Opens.int Try.underlying5 (by kernel_rfl)) (Y.OpensF.cons rfl (Y.Opens.bool Try.underlying4 (by kernel_rfl)) (Y.OpensF.one rfl (Y.Opens.slice Try.underlying22 (by kernel_rfl) _ (by kernel_rfl) (Y.Opens.int Try.underlying5 (by kernel_rfl))))))))) (fun x : U.S24 => (x.f0, x.f1, x.f2, x.f3, x.f4)) (fun x => ⟨x.1, x.2.1, x.2.2.1, x.2.2.2.1, x.2.2.2.2⟩) (fun _ => rfl)))).opens (cs := [.slice A0 len0 cap0]) hf0 hwt0
  obtain ⟨A0_, c0_, he0, hc0, hr0⟩ := hK0
  simp only [List.cons.injEq, Value.slice.injEq, and_true] at he0
  obtain ⟨rfl, rfl, rfl⟩ := he0
  obtain ⟨hw0, y0⟩ := hwf0
  have hwt1 := Y.weights_at hsz (j := 1) (t := 45) rfl rfl
  have lt1 : ∀ x ∈ p1, x.block < W.heap.size := by obtain ⟨m, hm⟩ := h1; exact DataW.trod_lt m _ _ _ hm
  have k1 := h1
  obtain ⟨A1, len1, cap1, rfl⟩ := okWide_slice Try.underlying45 (hval 1 45 v1 rfl rfl)
  obtain ⟨fuel1, hf1⟩ := h1
  obtain ⟨x1, hK1, hwf1⟩ := (show Y.Opens Try.prog 45 _ _ from (Y.Opens.slice Try.underlying45 (by kernel_rfl) _ (by kernel_rfl) (Y.Opens.iso (Y.Opens.struct Try.underlying24 (by kernel_rfl) (Y.OpensF.cons rfl (Y.Opens.int Try.underlying3 (by kernel_rfl)) (Y.OpensF.cons rfl (Y.Opens.int Try.underlying3 (by kernel_rfl)) (Y.OpensF.cons rfl (Y.Opens.int Try.underlying5 (by kernel_rfl)) (Y.OpensF.cons rfl (Y.Opens.bool Try.underlying4 (by kernel_rfl)) (Y.OpensF.one rfl (Y.Opens.slice Try.underlying22 (by kernel_rfl) _ (by kernel_rfl) (Y.Opens.int Try.underlying5 (by kernel_rfl))))))))) (fun x : U.S24 => (x.f0, x.f1, x.f2, x.f3, x.f4)) (fun x => ⟨x.1, x.2.1, x.2.2.1, x.2.2.2.1, x.2.2.2.2⟩) (fun _ => rfl)))).opens (cs := [.slice A1 len1 cap1]) hf1 hwt1
  obtain ⟨A1_, c1_, he1, hc1, hr1⟩ := hK1
  simp only [List.cons.injEq, Value.slice.injEq, and_true] at he1
  obtain ⟨rfl, rfl, rfl⟩ := he1
  obtain ⟨hw1, y1⟩ := hwf1
  have h := Pure.DiskTwins x0 x1 hw0 y0 hw1 y1
  refine (U.undercroftlaw02_DiskTwins.calls (A0 := A0) (c0 := cap0) (l0 := x0) (A1 := A1) (c1 := cap1) (l1 := x1) (r := true) (w := W) (hr0 := hr0) (hc0 := hc0) (hr1 := hr1) (hc1 := hc1) (h := h)).mono fun e W' ⟨he, bel0⟩ => ?_
  have bel : Below W.heap.size W W' := bel0
  subst he
  exact ⟨_, rfl, _, _, _, [], _, [], hW', trodAll_mk1 (shut_bool Try.underlying4 _), (trodAll_cons_mk (Below.trod laidOut (by kernel_rfl) (of_decide_eq_true (by kernel_rfl)) k0 bel lt0) (trodAll_cons_mk (Below.trod laidOut (by kernel_rfl) (of_decide_eq_true (by kernel_rfl)) k1 bel lt1) trodAll_mk0)), rfl, bel.frame _, fun h => by cases h⟩
theorem over : Rows.diskTwinsRow.holds Try.pinned (OpenSpec.ofChange Rows.diskTwinsSpec) :=
  OpenClaim.holds_of_wide 10 Try.f10 rfl rfl rfl rfl rfl rfl rfl ⟨rfl, rfl, rfl, rfl, rfl⟩ rfl rfl rfl rfl rfl (by kernel_rfl) Try.func10 (by kernel_rfl)
    (of_decide_eq_true (by kernel_rfl)) (by unfold Func.isWrapper; first | (rw [if_pos (by decide +kernel)]; kernel_rfl) | (rw [if_neg (by decide +kernel)]; exact ⟨rfl, rfl⟩))
    (fun os started H enc _ => lifted os started H enc)
theorem proved : Rows.DiskTwinsSaid := over
#print axioms proved
end Go.Proofs.Ytbpkjkdbijifbaa.diskTwins
namespace Go.Proofs.Ytbpkjkdbijifbaa
/-- The row, under a short name, for the claim. -/
theorem diskTwins_holds : Rows.DiskTwinsSaid := diskTwins.proved
end Go.Proofs.Ytbpkjkdbijifbaa
