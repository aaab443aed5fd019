/- LawLogStays: what this claim uses. Laid by slim.py (ours). -/
import Derived.Test.YtlbfpjhnpnbikaaRows
import Derived.Test.YtlbfpjhnpnbikaaKUx42
import Derived.Test.YtlbfpjhnpnbikaaKZOpen
import Derived.WalkKit
import Derived.ProofKit
import Derived.OpenShut
import Derived.ShutString
import Derived.ChangeOld
import Derived.Below
import Derived.SizedLaws
namespace Go.Proofs.Ytlbfpjhnpnbikaa.logStays
open Go Go.ChangeShapes Go.WideShapes Go.ChangeAt Go.RowKit Go.Proofs.YtlbfpjhnpnbikaaW.PrintWords
open Go.ChangeMaps (open_string shut_string)
set_option linter.unusedVariables false
set_option linter.unusedSimpArgs false
theorem own : ownKnob Try.prog.godebug = none := by kernel_rfl
theorem laidOut : laidOutB Try.prog = true := by kernel_rfl
set_option maxRecDepth 100000 in
theorem lifted (os : Os) (started : os.Started) (H : Type) (enc : TypeId × Value → H) :
    ReturnsInHanded {} Try.checked os 4 .any (Rows.logStaysSpec.pre6 enc Try.prog Try.f4 Rows.logStaysRow.domain false) (Rows.logStaysSpec.post enc Try.prog Try.f4 false true false false) := by
  refine returnsInHanded_of_change_sized (C := Try.checked) own started (by kernel_rfl) Try.func4
    (ChangeSpec.witness6 (enc := enc) (C := Try.checked) false ⟨#[], #[.agg #[.int .i64 0, .int .i64 0, .int .i64 0], .slice none 0 0], []⟩ 8 (by kernel_rfl) (by kernel_rfl) (by kernel_rfl) (by kernel_rfl)) ?_
  intro W base args ds gs before hval0 hW hcnd hsz0 _
  have hsz : (DataW.weightsEach Try.prog (Try.f4.params.toList ++ Rows.logStaysSpec.plain.varTypes Try.prog) (ds ++ gs)).all (· ≤ reachBytes) = true := hsz0
  have hval : ∀ (j : Nat) t v, Try.f4.params[j]? = some t → args[j]? = some v → Value.okWide Try.prog W .any base t v := hval0
  have hW' := hW
  obtain ⟨p, q, hA0, hV, rfl, hfz, hnd⟩ := hW
  have hA : DataW.TrodAll enc Try.prog W 0 (fun _ => true) true Try.f4.params.toList args.toList ds p := hA0
  rw [Try.params4] at hA hval hsz
  obtain ⟨v0, vs0, d0, ds0, p0, q0, hargs, rfl, rfl, h0, r0⟩ := trodAll_cons hA
  obtain ⟨v1, vs1, d1, ds1, p1, q1, rfl, rfl, rfl, h1, r1⟩ := trodAll_cons r0
  obtain ⟨rfl, rfl, rfl⟩ := trodAll_nil r1
  obtain rfl : args = #[v0, v1] := by cases args; simp_all
  obtain ⟨rfl, rfl⟩ := trodVars_none hV
  have hwt0 := Y.weights_at hsz (j := 0) (t := 24) rfl rfl
  have lt0 : ∀ x ∈ p0, x.block < W.heap.size := by obtain ⟨m, hm⟩ := h0; exact DataW.trod_lt m _ _ _ hm
  have k0 := h0
  obtain ⟨⟨cs0⟩, rfl, hcs0⟩ := okWide_struct Try.underlying24 (hval 0 24 v0 rfl rfl)
  obtain ⟨fuel0, hf0⟩ := h0
  obtain ⟨x0, hK0, hwf0⟩ := (show Y.Opens Try.prog 24 _ _ from (Y.Opens.struct Try.underlying24 (by kernel_rfl) (Y.OpensF.cons rfl (Y.Opens.int Try.underlying3 (by kernel_rfl)) (Y.OpensF.cons rfl (Y.Opens.int Try.underlying3 (by kernel_rfl)) (Y.OpensF.one rfl (Y.Opens.int Try.underlying3 (by kernel_rfl))))))).opens (cs := cs0) hf0 hwt0
  obtain ⟨a0_0, a0_1, a0_2⟩ := x0
  obtain ⟨_, _, rfl, rfl, ⟨_, _, rfl, rfl, rfl⟩⟩ := hK0
  obtain ⟨w0_0, w0_1, w0_2⟩ := hwf0
  have hwt1 := Y.weights_at hsz (j := 1) (t := 48) rfl rfl
  have lt1 : ∀ x ∈ p1, x.block < W.heap.size := by obtain ⟨m, hm⟩ := h1; exact DataW.trod_lt m _ _ _ hm
  have k1 := h1
  obtain ⟨A1, len1, cap1, rfl⟩ := okWide_slice Try.underlying48 (hval 1 48 v1 rfl rfl)
  obtain ⟨fuel1, hf1⟩ := h1
  obtain ⟨x1, hK1, hwf1⟩ := (show Y.Opens Try.prog 48 _ _ from (Y.Opens.slice Try.underlying48 (by kernel_rfl) _ (by kernel_rfl) (Y.Opens.iso (Y.Opens.struct Try.underlying62 (by kernel_rfl) (Y.OpensF.cons rfl (Y.Opens.int Try.underlying3 (by kernel_rfl)) (Y.OpensF.cons rfl (Y.Opens.iso (Y.Opens.struct Try.underlying60 (by kernel_rfl) (Y.OpensF.cons rfl (Y.Opens.int Try.underlying40 (by kernel_rfl)) (Y.OpensF.cons rfl (Y.Opens.slice Try.underlying57 (by kernel_rfl) _ (by kernel_rfl) (Y.Opens.iso (Y.Opens.struct Try.underlying66 (by kernel_rfl) (Y.OpensF.cons rfl (Y.Opens.int Try.underlying3 (by kernel_rfl)) (Y.OpensF.one rfl (Y.Opens.slice Try.underlying22 (by kernel_rfl) _ (by kernel_rfl) (Y.Opens.int Try.underlying5 (by kernel_rfl)))))) (fun x : U.S66 => (x.f0, x.f1)) (fun x => ⟨x.1, x.2⟩) (fun _ => rfl))) (Y.OpensF.one rfl (Y.Opens.slice Try.underlying58 (by kernel_rfl) _ (by kernel_rfl) (Y.Opens.int Try.underlying3 (by kernel_rfl))))))) (fun x : U.S60 => (x.f0, x.f1, x.f2)) (fun x => ⟨x.1, x.2.1, x.2.2⟩) (fun _ => rfl)) (Y.OpensF.one rfl (Y.Opens.slice Try.underlying22 (by kernel_rfl) _ (by kernel_rfl) (Y.Opens.int Try.underlying5 (by kernel_rfl))))))) (fun x : U.S62 => (x.f0, x.f1, x.f2)) (fun x => ⟨x.1, x.2.1, x.2.2⟩) (fun _ => rfl)))).opens (cs := [.slice A1 len1 cap1]) hf1 hwt1
  obtain ⟨A1_, c1_, he1, hc1, hr1⟩ := hK1
  simp only [List.cons.injEq, Value.slice.injEq, and_true] at he1
  obtain ⟨rfl, rfl, rfl⟩ := he1
  obtain ⟨hw1, y1⟩ := hwf1
  have h := Pure.LogStays a0_0 a0_1 a0_2 x1 w0_0 w0_1 w0_2 hw1 y1
  refine (U.undercroftlaw04_LogStays.calls (A1 := A1) (c1 := cap1) (l1 := x1) (r := true) (w := W) (hr1 := hr1) (hc1 := hc1) (h := h)).mono fun e W' ⟨he, bel0⟩ => ?_
  have bel : Below W.heap.size W W' := bel0
  subst he
  exact ⟨_, rfl, _, _, _, [], _, [], hW', trodAll_mk1 (shut_bool Try.underlying4 _), (trodAll_cons_mk (Below.trod laidOut (by kernel_rfl) (of_decide_eq_true (by kernel_rfl)) k0 bel lt0) (trodAll_cons_mk (Below.trod laidOut (by kernel_rfl) (of_decide_eq_true (by kernel_rfl)) k1 bel lt1) trodAll_mk0)), rfl, bel.frame _, fun h => by cases h⟩
theorem over : Rows.logStaysRow.holds Try.pinned (OpenSpec.ofChange Rows.logStaysSpec) :=
  OpenClaim.holds_of_wide 4 Try.f4 rfl rfl rfl rfl rfl rfl rfl ⟨rfl, rfl, rfl, rfl, rfl⟩ rfl rfl rfl rfl rfl (by kernel_rfl) Try.func4 (by kernel_rfl)
    (of_decide_eq_true (by kernel_rfl)) (by unfold Func.isWrapper; first | (rw [if_pos (by decide +kernel)]; kernel_rfl) | (rw [if_neg (by decide +kernel)]; exact ⟨rfl, rfl⟩))
    (fun os started H enc _ => lifted os started H enc)
theorem proved : Rows.LogStaysSaid := over
#print axioms proved
end Go.Proofs.Ytlbfpjhnpnbikaa.logStays
namespace Go.Proofs.Ytlbfpjhnpnbikaa
theorem logStays_holds : Rows.LogStaysSaid := logStays.proved
end Go.Proofs.Ytlbfpjhnpnbikaa
