/- DiskKeeps: what was written is read until it is written again, settling changes nothing that is read, and what was flushed stays through any crash; no condition. -/
import Derived.Test.YtbpkjkdbijifbaaRows
import Derived.Test.YtbpkjkdbijifbaaUx16
import Derived.Test.YtbpkjkdbijifbaaPureDiskKeeps
import Derived.Test.YtbpkjkdbijifbaaZOpen
import Derived.WalkKit
import Derived.ProofKit
import Derived.OpenShut
import Derived.ShutString
import Derived.ChangeOld
import Derived.Below
import Derived.SizedLaws
namespace Go.Proofs.Ytbpkjkdbijifbaa.diskKeeps
open Go Go.ChangeShapes Go.WideShapes Go.ChangeAt Go.RowKit Go.Proofs.YtbpkjkdbijifbaaW.PrintWords
open Go.ChangeMaps (open_string shut_string)
set_option linter.unusedVariables false
set_option linter.unusedSimpArgs false
theorem own : ownKnob Try.prog.godebug = none := by kernel_rfl
theorem laidOut : laidOutB Try.prog = true := by kernel_rfl
set_option maxRecDepth 100000 in
theorem lifted (os : Os) (started : os.Started) (H : Type) (enc : TypeId × Value → H) :
    ReturnsInHanded {} Try.checked os 7 .any (Rows.diskKeepsSpec.pre6 enc Try.prog Try.f7 Rows.diskKeepsRow.domain false) (Rows.diskKeepsSpec.post enc Try.prog Try.f7 false true false false) := by
  refine returnsInHanded_of_change_sized (C := Try.checked) own started (by kernel_rfl) Try.func7
    (ChangeSpec.witness6 (enc := enc) (C := Try.checked) false ⟨#[], #[.slice none 0 0, .agg #[.int .i64 0, .int .i64 0, .int .u8 0, .bool false, .slice none 0 0], .slice none 0 0], []⟩ 8 (by kernel_rfl) (by kernel_rfl) (by kernel_rfl) (by kernel_rfl)) ?_
  intro W base args ds gs before hval0 hW hcnd hsz0 _
  have hsz : (DataW.weightsEach Try.prog (Try.f7.params.toList ++ Rows.diskKeepsSpec.plain.varTypes Try.prog) (ds ++ gs)).all (· ≤ reachBytes) = true := hsz0
  have hval : ∀ (j : Nat) t v, Try.f7.params[j]? = some t → args[j]? = some v → Value.okWide Try.prog W .any base t v := hval0
  have hW' := hW
  obtain ⟨p, q, hA0, hV, rfl, hfz, hnd⟩ := hW
  have hA : DataW.TrodAll enc Try.prog W 0 (fun _ => true) true Try.f7.params.toList args.toList ds p := hA0
  rw [Try.params7] at hA hval hsz
  obtain ⟨v0, vs0, d0, ds0, p0, q0, hargs, rfl, rfl, h0, r0⟩ := trodAll_cons hA
  obtain ⟨v1, vs1, d1, ds1, p1, q1, rfl, rfl, rfl, h1, r1⟩ := trodAll_cons r0
  obtain ⟨v2, vs2, d2, ds2, p2, q2, rfl, rfl, rfl, h2, r2⟩ := trodAll_cons r1
  obtain ⟨rfl, rfl, rfl⟩ := trodAll_nil r2
  obtain rfl : args = #[v0, v1, v2] := by cases args; simp_all
  obtain ⟨rfl, rfl⟩ := trodVars_none hV
  have hwt0 := Y.weights_at hsz (j := 0) (t := 45) rfl rfl
  have lt0 : ∀ x ∈ p0, x.block < W.heap.size := by obtain ⟨m, hm⟩ := h0; exact DataW.trod_lt m _ _ _ hm
  have k0 := h0
  obtain ⟨A0, len0, cap0, rfl⟩ := okWide_slice Try.underlying45 (hval 0 45 v0 rfl rfl)
  obtain ⟨fuel0, hf0⟩ := h0
  obtain ⟨x0, hK0, hwf0⟩ := (show Y.Opens Try.prog 45 _ _ from (Y.Opens.slice Try.underlying45 (by kernel_rfl) _ (by kernel_rfl) (Y.Opens.iso (Y.Opens.struct Try.underlying24 (by kernel_rfl) (Y.OpensF.cons rfl (Y.Opens.int Try.underlying3 (by kernel_rfl)) (Y.OpensF.cons rfl (Y.Opens.int Try.underlying3 (by kernel_rfl)) (Y.OpensF.cons rfl (Y.Opens.int Try.underlying5 (by kernel_rfl)) (Y.OpensF.cons rfl (Y.Opens.bool Try.underlying4 (by kernel_rfl)) (Y.OpensF.one rfl (Y.Opens.slice Try.underlying22 (by kernel_rfl) _ (by kernel_rfl) (Y.Opens.int Try.underlying5 (by kernel_rfl))))))))) (fun x : U.S24 => (x.f0, x.f1, x.f2, x.f3, x.f4)) (fun x => ⟨x.1, x.2.1, x.2.2.1, x.2.2.2.1, x.2.2.2.2⟩) (fun _ => rfl)))).opens (cs := [.slice A0 len0 cap0]) hf0 hwt0
  obtain ⟨A0_, c0_, he0, hc0, hr0⟩ := hK0
  simp only [List.cons.injEq, Value.slice.injEq, and_true] at he0
  obtain ⟨rfl, rfl, rfl⟩ := he0
  obtain ⟨hw0, y0⟩ := hwf0
  have hwt1 := Y.weights_at hsz (j := 1) (t := 24) rfl rfl
  have lt1 : ∀ x ∈ p1, x.block < W.heap.size := by obtain ⟨m, hm⟩ := h1; exact DataW.trod_lt m _ _ _ hm
  have k1 := h1
  obtain ⟨⟨cs1⟩, rfl, hcs1⟩ := okWide_struct Try.underlying24 (hval 1 24 v1 rfl rfl)
  obtain ⟨fuel1, hf1⟩ := h1
  obtain ⟨x1, hK1, hwf1⟩ := (show Y.Opens Try.prog 24 _ _ from (Y.Opens.struct Try.underlying24 (by kernel_rfl) (Y.OpensF.cons rfl (Y.Opens.int Try.underlying3 (by kernel_rfl)) (Y.OpensF.cons rfl (Y.Opens.int Try.underlying3 (by kernel_rfl)) (Y.OpensF.cons rfl (Y.Opens.int Try.underlying5 (by kernel_rfl)) (Y.OpensF.cons rfl (Y.Opens.bool Try.underlying4 (by kernel_rfl)) (Y.OpensF.one rfl (Y.Opens.slice Try.underlying22 (by kernel_rfl) _ (by kernel_rfl) (Y.Opens.int Try.underlying5 (by kernel_rfl)))))))))).opens (cs := cs1) hf1 hwt1
  obtain ⟨a1_0, a1_1, a1_2, a1_3, l1_4⟩ := x1
  obtain ⟨_, _, rfl, rfl, ⟨_, _, rfl, rfl, ⟨_, _, rfl, rfl, ⟨_, _, rfl, rfl, ⟨A1_4, c1_4, rfl, hc1_4, hr1_4⟩⟩⟩⟩⟩ := hK1
  obtain ⟨w1_0, w1_1, w1_2, -, ⟨hw1_4, y1_4⟩⟩ := hwf1
  have hwt2 := Y.weights_at hsz (j := 2) (t := 22) rfl rfl
  have lt2 : ∀ x ∈ p2, x.block < W.heap.size := by obtain ⟨m, hm⟩ := h2; exact DataW.trod_lt m _ _ _ hm
  have k2 := h2
  obtain ⟨A2, len2, cap2, rfl⟩ := okWide_slice Try.underlying22 (hval 2 22 v2 rfl rfl)
  obtain ⟨fuel2, hf2⟩ := h2
  obtain ⟨x2, hK2, hwf2⟩ := (show Y.Opens Try.prog 22 _ _ from (Y.Opens.slice Try.underlying22 (by kernel_rfl) _ (by kernel_rfl) (Y.Opens.int Try.underlying5 (by kernel_rfl)))).opens (cs := [.slice A2 len2 cap2]) hf2 hwt2
  obtain ⟨A2_, c2_, he2, hc2, hr2⟩ := hK2
  simp only [List.cons.injEq, Value.slice.injEq, and_true] at he2
  obtain ⟨rfl, rfl, rfl⟩ := he2
  obtain ⟨hw2, y2⟩ := hwf2
  have h := Pure.DiskKeeps x0 a1_0 a1_1 a1_2 a1_3 l1_4 x2 hw0 y0 w1_0 w1_1 w1_2 hw1_4 y1_4 hw2 y2
  refine (U.undercroftlaw02_DiskKeeps.calls (A0 := A0) (c0 := cap0) (l0 := x0) (a1_3 := a1_3) (A1_4 := A1_4) (c1_4 := c1_4) (l1_4 := l1_4) (A2 := A2) (c2 := cap2) (l2 := x2) (r := true) (w := W) (hr0 := hr0) (hc0 := hc0) (hr1_4 := hr1_4) (hc1_4 := hc1_4) (hr2 := hr2) (hc2 := hc2) (h := h)).mono fun e W' ⟨he, bel0⟩ => ?_
  have bel : Below W.heap.size W W' := bel0
  subst he
  exact ⟨_, rfl, _, _, _, [], _, [], hW', trodAll_mk1 (shut_bool Try.underlying4 _), (trodAll_cons_mk (Below.trod laidOut (by kernel_rfl) (of_decide_eq_true (by kernel_rfl)) k0 bel lt0) (trodAll_cons_mk (Below.trod laidOut (by kernel_rfl) (of_decide_eq_true (by kernel_rfl)) k1 bel lt1) (trodAll_cons_mk (Below.trod laidOut (by kernel_rfl) (of_decide_eq_true (by kernel_rfl)) k2 bel lt2) trodAll_mk0))), rfl, bel.frame _, fun h => by cases h⟩
theorem over : Rows.diskKeepsRow.holds Try.pinned (OpenSpec.ofChange Rows.diskKeepsSpec) :=
  OpenClaim.holds_of_wide 7 Try.f7 rfl rfl rfl rfl rfl rfl rfl ⟨rfl, rfl, rfl, rfl, rfl⟩ rfl rfl rfl rfl rfl (by kernel_rfl) Try.func7 (by kernel_rfl)
    (of_decide_eq_true (by kernel_rfl)) (by unfold Func.isWrapper; first | (rw [if_pos (by decide +kernel)]; kernel_rfl) | (rw [if_neg (by decide +kernel)]; exact ⟨rfl, rfl⟩))
    (fun os started H enc _ => lifted os started H enc)
theorem proved : Rows.DiskKeepsSaid := over
#print axioms proved
end Go.Proofs.Ytbpkjkdbijifbaa.diskKeeps
namespace Go.Proofs.Ytbpkjkdbijifbaa
/-- The row, under a short name, for the claim. -/
theorem diskKeeps_holds : Rows.DiskKeepsSaid := diskKeeps.proved
end Go.Proofs.Ytbpkjkdbijifbaa
