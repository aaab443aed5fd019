/- Words of ours: what a region that draws its order holds may be told anew on the way. -/
import Derived.Test.YtbpkjkdbijifbaaWLast
namespace Go.Proofs.Ytbpkjkdbijifbaa.X
open Go Go.RowKit
open Go.Proofs.YtbpkjkdbijifbaaW.PrintLast
section
variable {P : Program} {ops : Array Oper} {Q : Exit → Act → World → Prop} {md : Region.Mode} {S S2 : World → Prop}
theorem last_turn (hi : ∀ w', S2 w' → S w') : ∀ (fuel : Nat) (l : Array Bool) (a : Act) (w : World), S2 w → wpAnyLast P md ops Q S2 [] fuel l a w → wpAnyLast P md ops Q S [] fuel l a w
  | 0, _, _, _, _, h => h
  | fuel + 1, _, _, _, hS, h => ⟨h.1, fun i hr => wpOp_mono (fun a' w' h' => ⟨fun _ _ => hi w' (h'.1 (by simp) hS), last_turn hi fuel _ a' w' (h'.1 (by simp) hS) h'.2⟩) (h.2 i hr)⟩
/-- From here on S2 is held. -/
theorem more_ {fuel : Nat} {l : Array Bool} {a : Act} {w : World} (S2 : World → Prop) (hS : S2 w) (hi : ∀ w', S2 w' → S w') (h : S2 w → wpAnyLast P md ops Q S2 [] fuel l a w) : wpAnyLast P md ops Q S [] fuel l a w := last_turn hi fuel l a w hS (h hS)
end
end Go.Proofs.Ytbpkjkdbijifbaa.X
