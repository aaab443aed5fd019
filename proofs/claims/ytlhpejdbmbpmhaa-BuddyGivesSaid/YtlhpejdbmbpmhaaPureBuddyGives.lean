/- BuddyGives: what is taken back, and the chunks that are free, are told as the document says, at any map and span; no condition. -/
import Derived.Test.YtlhpejdbmbpmhaaUx22
import Derived.Test.YtlhpejdbmbpmhaaUx23
import Derived.Test.YtlhpejdbmbpmhaaPBuddy4
import Derived.Test.YtlhpejdbmbpmhaaPBuddy6
namespace Go.Proofs.Ytlhpejdbmbpmhaa.Pure
open Go Go.RowKit Go.Proofs.Ytlhpejdbmbpmhaa.U Go.Proofs.YtlhpejdbmbpmhaaW.PrintWords Go.Proofs.YtlhpejdbmbpmhaaW.PrintLast Go.Proofs.YtlhpejdbmbpmhaaW.PrintMore
set_option linter.unusedVariables false
set_option linter.unusedSimpArgs false
theorem same_l0 (r : List Int) (hr : r.length ≤ 9) (d : Nat) : ∀ k i : Nat, i + d = r.length → d < k → undercroftref03_SameInts.l0 k r r (i : Int) = some true := by
  induction d with
  | zero =>
    intro k i hd hk
    obtain ⟨k, rfl⟩ : ∃ m, k = m + 1 := ⟨k - 1, by omega⟩
    rw [undercroftref03_SameInts.l0, if_neg (by omega)]
  | succ d ih =>
    intro k i hd hk
    obtain ⟨k, rfl⟩ : ∃ m, k = m + 1 := ⟨k - 1, by omega⟩
    have w : wrap64 ((i : Int) + 1) = ((i + 1 : Nat) : Int) := by rw [wrap_id (by omega) (by omega)]; rfl
    rw [undercroftref03_SameInts.l0, if_pos (by omega), if_pos (by omega), if_pos (by omega), if_pos rfl, w]
    exact ih k (i + 1) (by omega) (by omega)
theorem same_f (r : List Int) (hr : r.length ≤ 9) (k : Nat) (hk : 10 ≤ k) : undercroftref03_SameInts.f k r r = some true := by
  unfold undercroftref03_SameInts.f
  rw [if_pos rfl]
  exact same_l0 r hr r.length k 0 (by omega) (by omega)
theorem BuddyGives (l : List Int) (a s m : Int) (hwf : ∀ x ∈ l, (Lit.int .u8 x).wf = true) (hsz : l.length * 1 ≤ 140737488351232) (h1 : (Lit.int .i64 a).wf = true) (h2 : (Lit.int .i64 s).wf = true) (h3 : (Lit.int .i64 m).wf = true) : ∃ k, undercroftlaw08_BuddyGives.f k l a s m = some true := by
  have hl := X.u8all_wf hwf
  have hm : l.length ≤ 140737488351232 := by omega
  obtain ⟨res, h4, h5, _⟩ := give_both l hl hm a s m (i64_wf h2) (i64_wf h3) (80 * l.length + 300) (by omega)
  obtain ⟨h6, h7⟩ := free_f l hl hm a (80 * l.length + 300) (by omega)
  refine ⟨80 * l.length + 300, ?_⟩
  obtain ⟨r, e, h8, h9, h10⟩ : ∃ r e, buddy_Orders.f (80 * l.length + 300) l a = some (r, e) ∧ undercroftref08_Orders.f (80 * l.length + 300) l a = some (r, e) ∧ r.length ≤ 9 := by
    rcases orders_both l hl hm a (80 * l.length + 300) (by omega) with ⟨_, h, h'⟩ | ⟨_, r, h, h', hc⟩
    · exact ⟨_, _, h, h', by decide⟩
    · exact ⟨_, _, h, h', by rw [hc.1]; decide⟩
  unfold undercroftlaw08_BuddyGives.f
  rw [alive_true _ (by omega), Option.bind_some, if_pos rfl, Option.bind_some, if_pos (by rw [List.length_nil]; omega), Option.bind_some, List.nil_append, h4, Option.bind_some, h5, Option.bind_some, h8, Option.bind_some, h9, Option.bind_some, h6, Option.bind_some, h7, Option.bind_some,
    if_pos rfl, if_pos rfl, same_f r h10 _ (by omega), Option.bind_some, if_pos rfl, if_pos rfl, if_pos rfl, if_pos rfl]
  simp
end Go.Proofs.Ytlhpejdbmbpmhaa.Pure
