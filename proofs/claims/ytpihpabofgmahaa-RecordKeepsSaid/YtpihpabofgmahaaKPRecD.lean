/- PRecD: what this claim uses. Laid by slim.py (ours). -/
import Derived.Test.YtpihpabofgmahaaKUx11
import Derived.Test.YtpihpabofgmahaaKPRec3
import Derived.Test.YtpihpabofgmahaaKPRecP
namespace Go.Proofs.Ytpihpabofgmahaa.Pure
open Go Go.RowKit Go.Proofs.Ytpihpabofgmahaa.U Go.Proofs.YtpihpabofgmahaaW.PrintWords Go.Proofs.YtpihpabofgmahaaW.PrintLast Go.Proofs.YtpihpabofgmahaaW.PrintMore
set_option linter.unusedVariables false
set_option linter.unusedSimpArgs false
theorem Decode_part (w0 w : World) (L : List X.Res) (A : Option Addr) (c : Nat) (xs : List Int) (a : Int) (h : X.Lies w0 w L) (hC : (Kd.int .u8).C w A xs.length xs) (hc : xs.length ≤ c) (hu : X.u8all xs = true) (hm : xs.length ≤ 140737488400000) :
    Calls Try.prog 16 #[.slice A xs.length c, .int .u64 a] w fun e w' => ∃ B1 d1 B2 d2 l, e = .returned (.tuple #[.agg #[.int .u64 (decOf xs a).1, .slice B1 (decOf xs a).2.1.length d1, .slice B2 (decOf xs a).2.2.1.length d2], .int .i64 (decOf xs a).2.2.2.1, .bool (decOf xs a).2.2.2.2]) ∧ (prs (decOf xs a).2.1 = l.map fun x : Int × Value × List Int => (x.1, x.2.2)) ∧ X.Lies w0 w' (.wown (.slice B1 (decOf xs a).2.1.length d1) l :: .row (Kd.int .i64) 3 (.slice B2 (decOf xs a).2.2.1.length d2) (decOf xs a).2.2.1 :: L) := by
  refine (record_Decode.calls A c xs a (decOf xs a).1 (decOf xs a).2.1 (decOf xs a).2.2.1 (decOf xs a).2.2.2.1 (decOf xs a).2.2.2.2 w hC hc (decode_f hu hm a)).mono ?_
  rintro e w' ⟨v1, v2, rfl, hs, hr, hb⟩
  obtain ⟨l, hl, h3⟩ := h.fromSR (f := fun x : S43 => (x.f0, x.f1)) hb hs hr (by decide)
  obtain ⟨B1, d1, rfl, -⟩ := wown_C h3 0 rfl hl
  obtain ⟨B2, d2, rfl⟩ := Kd.R_slice hr
  exact ⟨B1, d1, B2, d2, l, rfl, hl, h3⟩
end Go.Proofs.Ytpihpabofgmahaa.Pure
