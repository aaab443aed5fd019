/- GeomTells: geometries, superblocks and places are what the document says, at any number of blocks, any geometry and any place; no condition. -/
import Derived.Test.YtiaefbngegmpaaaRows
import Derived.Test.YtiaefbngegmpaaaUx14
import Derived.Test.YtiaefbngegmpaaaPureGeomTells
import Derived.Test.YtiaefbngegmpaaaZOpen
import Derived.WalkKit
import Derived.ProofKit
import Derived.OpenShut
import Derived.ShutString
import Derived.ChangeOld
import Derived.Below
import Derived.SizedLaws
namespace Go.Proofs.Ytiaefbngegmpaaa.geomTells
open Go Go.ChangeShapes Go.WideShapes Go.ChangeAt Go.RowKit Go.Proofs.YtiaefbngegmpaaaW.PrintWords
open Go.ChangeMaps (open_string shut_string)
set_option linter.unusedVariables false
set_option linter.unusedSimpArgs false
theorem own : ownKnob Try.prog.godebug = none := by kernel_rfl
theorem laidOut : laidOutB Try.prog = true := by kernel_rfl
set_option maxRecDepth 100000 in
theorem lifted (os : Os) (started : os.Started) (H : Type) (enc : TypeId × Value → H) :
    ReturnsInHanded {} Try.checked os 4 .any (Rows.geomTellsSpec.pre6 enc Try.prog Try.f4 Rows.geomTellsRow.domain false) (Rows.geomTellsSpec.post enc Try.prog Try.f4 false true false false) := by
  refine returnsInHanded_of_change_sized (C := Try.checked) own started (by kernel_rfl) Try.func4
    (ChangeSpec.witness6 (enc := enc) (C := Try.checked) false ⟨#[], #[.int .i64 0, .agg #[.int .i64 0, .int .i64 0, .int .i64 0, .int .i64 0, .int .i64 0, .int .i64 0, .int .i64 0, .int .i64 0], .int .i64 0], []⟩ 8 (by kernel_rfl) (by kernel_rfl) (by kernel_rfl) (by kernel_rfl)) ?_
  intro W base args ds gs before hval0 hW hcnd hsz0 _
  have hsz : (DataW.weightsEach Try.prog (Try.f4.params.toList ++ Rows.geomTellsSpec.plain.varTypes Try.prog) (ds ++ gs)).all (· ≤ reachBytes) = true := hsz0
  have hval : ∀ (j : Nat) t v, Try.f4.params[j]? = some t → args[j]? = some v → Value.okWide Try.prog W .any base t v := hval0
  have hW' := hW
  obtain ⟨p, q, hA0, hV, rfl, hfz, hnd⟩ := hW
  have hA : DataW.TrodAll enc Try.prog W 0 (fun _ => true) true Try.f4.params.toList args.toList ds p := hA0
  rw [Try.params4] at hA hval hsz
  obtain ⟨v0, vs0, d0, ds0, p0, q0, hargs, rfl, rfl, h0, r0⟩ := trodAll_cons hA
  obtain ⟨v1, vs1, d1, ds1, p1, q1, rfl, rfl, rfl, h1, r1⟩ := trodAll_cons r0
  obtain ⟨v2, vs2, d2, ds2, p2, q2, rfl, rfl, rfl, h2, r2⟩ := trodAll_cons r1
  obtain ⟨rfl, rfl, rfl⟩ := trodAll_nil r2
  obtain rfl : args = #[v0, v1, v2] := by cases args; simp_all
  obtain ⟨rfl, rfl⟩ := trodVars_none hV
  obtain ⟨a0, rfl, rfl, rfl, w0⟩ := open_int Try.underlying3 (hval 0 3 v0 rfl rfl) h0
  have hwt1 := Y.weights_at hsz (j := 1) (t := 24) rfl rfl
  have lt1 : ∀ x ∈ p1, x.block < W.heap.size := by obtain ⟨m, hm⟩ := h1; exact DataW.trod_lt m _ _ _ hm
  have k1 := h1
  obtain ⟨⟨cs1⟩, rfl, hcs1⟩ := okWide_struct Try.underlying24 (hval 1 24 v1 rfl rfl)
  obtain ⟨fuel1, hf1⟩ := h1
  obtain ⟨x1, hK1, hwf1⟩ := (show Y.Opens Try.prog 24 _ _ from (Y.Opens.struct Try.underlying24 (by kernel_rfl) (Y.OpensF.cons rfl (Y.Opens.int Try.underlying3 (by kernel_rfl)) (Y.OpensF.cons rfl (Y.Opens.int Try.underlying3 (by kernel_rfl)) (Y.OpensF.cons rfl (Y.Opens.int Try.underlying3 (by kernel_rfl)) (Y.OpensF.cons rfl (Y.Opens.int Try.underlying3 (by kernel_rfl)) (Y.OpensF.cons rfl (Y.Opens.int Try.underlying3 (by kernel_rfl)) (Y.OpensF.cons rfl (Y.Opens.int Try.underlying3 (by kernel_rfl)) (Y.OpensF.cons rfl (Y.Opens.int Try.underlying3 (by kernel_rfl)) (Y.OpensF.one rfl (Y.Opens.int Try.underlying3 (by kernel_rfl)))))))))))).opens (cs := cs1) hf1 hwt1
  obtain ⟨a1_0, a1_1, a1_2, a1_3, a1_4, a1_5, a1_6, a1_7⟩ := x1
  obtain ⟨_, _, rfl, rfl, ⟨_, _, rfl, rfl, ⟨_, _, rfl, rfl, ⟨_, _, rfl, rfl, ⟨_, _, rfl, rfl, ⟨_, _, rfl, rfl, ⟨_, _, rfl, rfl, rfl⟩⟩⟩⟩⟩⟩⟩ := hK1
  obtain ⟨w1_0, w1_1, w1_2, w1_3, w1_4, w1_5, w1_6, w1_7⟩ := hwf1
  obtain ⟨a2, rfl, rfl, rfl, w2⟩ := open_int Try.underlying3 (hval 2 3 v2 rfl rfl) h2
  have h := Pure.GeomTells a0 a1_0 a1_1 a1_2 a1_3 a1_4 a1_5 a1_6 a1_7 a2 w0 w1_0 w1_1 w1_2 w1_3 w1_4 w1_5 w1_6 w1_7 w2
  obtain ⟨k, h⟩ := h
  refine (U.undercroftlaw06_GeomTells.calls (k := k) (a0 := a0) (a1_0 := a1_0) (a1_1 := a1_1) (a1_2 := a1_2) (a1_3 := a1_3) (a1_4 := a1_4) (a1_5 := a1_5) (a1_6 := a1_6) (a1_7 := a1_7) (a2 := a2) (r := true) (w := W) (h := h) (hT := rfl)).mono fun e W' ⟨he, bel0⟩ => ?_
  have bel : Below W.heap.size W W' := bel0
  subst he
  exact ⟨_, rfl, _, _, _, [], _, [], hW', trodAll_mk1 (shut_bool Try.underlying4 _), (trodAll_cons_mk (shut_int Try.underlying3 w0) (trodAll_cons_mk (Below.trod laidOut (by kernel_rfl) (of_decide_eq_true (by kernel_rfl)) k1 bel lt1) (trodAll_cons_mk (shut_int Try.underlying3 w2) trodAll_mk0))), rfl, bel.frame _, fun h => by cases h⟩
theorem over : Rows.geomTellsRow.holds Try.pinned (OpenSpec.ofChange Rows.geomTellsSpec) :=
  OpenClaim.holds_of_wide 4 Try.f4 rfl rfl rfl rfl rfl rfl rfl ⟨rfl, rfl, rfl, rfl, rfl⟩ rfl rfl rfl rfl rfl (by kernel_rfl) Try.func4 (by kernel_rfl)
    (of_decide_eq_true (by kernel_rfl)) (by unfold Func.isWrapper; first | (rw [if_pos (by decide +kernel)]; kernel_rfl) | (rw [if_neg (by decide +kernel)]; exact ⟨rfl, rfl⟩))
    (fun os started H enc _ => lifted os started H enc)
theorem proved : Rows.GeomTellsSaid := over
#print axioms proved
end Go.Proofs.Ytiaefbngegmpaaa.geomTells
namespace Go.Proofs.Ytiaefbngegmpaaa
/-- The row, under a short name, for the claim. -/
theorem geomTells_holds : Rows.GeomTellsSaid := geomTells.proved
end Go.Proofs.Ytiaefbngegmpaaa
