/- RecordTorn: a record whose blocks are changed within 32 bits side by side is not read, at any record, place and burst; no condition. -/
import Derived.Test.YtpihpabofgmahaaRows
import Derived.Test.YtpihpabofgmahaaUx28
import Derived.Test.YtpihpabofgmahaaPureRecordTorn
import Derived.Test.YtpihpabofgmahaaZOpen
import Derived.WalkKit
import Derived.ProofKit
import Derived.OpenShut
import Derived.ShutString
import Derived.ChangeOld
import Derived.Below
import Derived.SizedLaws
namespace Go.Proofs.Ytpihpabofgmahaa.recordTorn
open Go Go.ChangeShapes Go.WideShapes Go.ChangeAt Go.RowKit Go.Proofs.YtpihpabofgmahaaW.PrintWords
open Go.ChangeMaps (open_string shut_string)
set_option linter.unusedVariables false
set_option linter.unusedSimpArgs false
theorem own : ownKnob Try.prog.godebug = none := by kernel_rfl
theorem laidOut : laidOutB Try.prog = true := by kernel_rfl
set_option maxRecDepth 100000 in
theorem lifted (os : Os) (started : os.Started) (H : Type) (enc : TypeId × Value → H) :
    ReturnsInHanded {} Try.checked os 7 .any (Rows.recordTornSpec.pre6 enc Try.prog Try.f7 Rows.recordTornRow.domain false) (Rows.recordTornSpec.post enc Try.prog Try.f7 false true false false) := by
  refine returnsInHanded_of_change_sized (C := Try.checked) own started (by kernel_rfl) Try.func7
    (ChangeSpec.witness6 (enc := enc) (C := Try.checked) false ⟨#[], #[.agg #[.int .u64 0, .slice none 0 0, .slice none 0 0], .int .i64 0, .int .u32 0], []⟩ 8 (by kernel_rfl) (by kernel_rfl) (by kernel_rfl) (by kernel_rfl)) ?_
  intro W base args ds gs before hval0 hW hcnd hsz0 _
  have hsz : (DataW.weightsEach Try.prog (Try.f7.params.toList ++ Rows.recordTornSpec.plain.varTypes Try.prog) (ds ++ gs)).all (· ≤ reachBytes) = true := hsz0
  have hval : ∀ (j : Nat) t v, Try.f7.params[j]? = some t → args[j]? = some v → Value.okWide Try.prog W .any base t v := hval0
  have hW' := hW
  obtain ⟨p, q, hA0, hV, rfl, hfz, hnd⟩ := hW
  have hA : DataW.TrodAll enc Try.prog W 0 (fun _ => true) true Try.f7.params.toList args.toList ds p := hA0
  rw [Try.params7] at hA hval hsz
  obtain ⟨v0, vs0, d0, ds0, p0, q0, hargs, rfl, rfl, h0, r0⟩ := trodAll_cons hA
  obtain ⟨v1, vs1, d1, ds1, p1, q1, rfl, rfl, rfl, h1, r1⟩ := trodAll_cons r0
  obtain ⟨v2, vs2, d2, ds2, p2, q2, rfl, rfl, rfl, h2, r2⟩ := trodAll_cons r1
  obtain ⟨rfl, rfl, rfl⟩ := trodAll_nil r2
  obtain rfl : args = #[v0, v1, v2] := by cases args; simp_all
  obtain ⟨rfl, rfl⟩ := trodVars_none hV
  have hwt0 := Y.weights_at hsz (j := 0) (t := 26) rfl rfl
  have lt0 : ∀ x ∈ p0, x.block < W.heap.size := by obtain ⟨m, hm⟩ := h0; exact DataW.trod_lt m _ _ _ hm
  have k0 := h0
  obtain ⟨⟨cs0⟩, rfl, hcs0⟩ := okWide_struct Try.underlying26 (hval 0 26 v0 rfl rfl)
  obtain ⟨fuel0, hf0⟩ := h0
  obtain ⟨x0, hK0, hwf0⟩ := (show Y.Opens Try.prog 26 _ _ from (Y.Opens.struct Try.underlying26 (by kernel_rfl) (Y.OpensF.cons rfl (Y.Opens.int Try.underlying22 (by kernel_rfl)) (Y.OpensF.cons rfl (Y.Opens.slice Try.underlying23 (by kernel_rfl) _ (by kernel_rfl) (Y.Opens.iso (Y.Opens.struct Try.underlying43 (by kernel_rfl) (Y.OpensF.cons rfl (Y.Opens.int Try.underlying3 (by kernel_rfl)) (Y.OpensF.one rfl (Y.Opens.slice Try.underlying29 (by kernel_rfl) _ (by kernel_rfl) (Y.Opens.int Try.underlying5 (by kernel_rfl)))))) (fun x : U.S43 => (x.f0, x.f1)) (fun x => ⟨x.1, x.2⟩) (fun _ => rfl))) (Y.OpensF.one rfl (Y.Opens.slice Try.underlying24 (by kernel_rfl) _ (by kernel_rfl) (Y.Opens.int Try.underlying3 (by kernel_rfl)))))))).opens (cs := cs0) hf0 hwt0
  obtain ⟨a0_0, l0_1, l0_2⟩ := x0
  obtain ⟨_, _, rfl, rfl, ⟨_, _, rfl, ⟨A0_1, c0_1, rfl, hc0_1, hr0_1⟩, ⟨A0_2, c0_2, rfl, hc0_2, hr0_2⟩⟩⟩ := hK0
  obtain ⟨w0_0, ⟨hw0_1, y0_1⟩, ⟨hw0_2, y0_2⟩⟩ := hwf0
  obtain ⟨a1, rfl, rfl, rfl, w1⟩ := open_int Try.underlying3 (hval 1 3 v1 rfl rfl) h1
  obtain ⟨a2, rfl, rfl, rfl, w2⟩ := open_int Try.underlying39 (hval 2 39 v2 rfl rfl) h2
  have h := Pure.RecordTorn a0_0 l0_1 l0_2 a1 a2 w0_0 hw0_1 y0_1 hw0_2 y0_2 w1 w2
  obtain ⟨k, h⟩ := h
  refine (U.undercroftlaw03_RecordTorn.calls (k := k) (a0_0 := a0_0) (A0_1 := A0_1) (c0_1 := c0_1) (l0_1 := l0_1) (A0_2 := A0_2) (c0_2 := c0_2) (l0_2 := l0_2) (a1 := a1) (a2 := a2) (r := true) (w := W) (hr0_1 := hr0_1) (hc0_1 := hc0_1) (hr0_2 := hr0_2) (hc0_2 := hc0_2) (h := h) (hT := rfl)).mono fun e W' ⟨he, bel0⟩ => ?_
  have bel : Below W.heap.size W W' := bel0
  subst he
  exact ⟨_, rfl, _, _, _, [], _, [], hW', trodAll_mk1 (shut_bool Try.underlying4 _), (trodAll_cons_mk (Below.trod laidOut (by kernel_rfl) (of_decide_eq_true (by kernel_rfl)) k0 bel lt0) (trodAll_cons_mk (shut_int Try.underlying3 w1) (trodAll_cons_mk (shut_int Try.underlying39 w2) trodAll_mk0))), rfl, bel.frame _, fun h => by cases h⟩
theorem over : Rows.recordTornRow.holds Try.pinned (OpenSpec.ofChange Rows.recordTornSpec) :=
  OpenClaim.holds_of_wide 7 Try.f7 rfl rfl rfl rfl rfl rfl rfl ⟨rfl, rfl, rfl, rfl, rfl⟩ rfl rfl rfl rfl rfl (by kernel_rfl) Try.func7 (by kernel_rfl)
    (of_decide_eq_true (by kernel_rfl)) (by unfold Func.isWrapper; first | (rw [if_pos (by decide +kernel)]; kernel_rfl) | (rw [if_neg (by decide +kernel)]; exact ⟨rfl, rfl⟩))
    (fun os started H enc _ => lifted os started H enc)
theorem proved : Rows.RecordTornSaid := over
#print axioms proved
end Go.Proofs.Ytpihpabofgmahaa.recordTorn
namespace Go.Proofs.Ytpihpabofgmahaa
/-- The row, under a short name, for the claim. -/
theorem recordTorn_holds : Rows.RecordTornSaid := recordTorn.proved
end Go.Proofs.Ytpihpabofgmahaa
