/- CrcOne: another byte anywhere makes another sum, at any bytes, any place and any byte; no condition. -/
import Derived.Test.YtdailnkioldbnaaUx7
import Derived.Test.YtdailnkioldbnaaUx20
import Derived.Test.YtdailnkioldbnaaPCrc
import Derived.Test.YtdailnkioldbnaaXCrc3
namespace Go.Proofs.Ytdailnkioldbnaa.Pure
open Go Go.RowKit Go.Proofs.Ytdailnkioldbnaa.U Go.Proofs.YtdailnkioldbnaaW.PrintWords Go.Proofs.YtdailnkioldbnaaW.PrintLast Go.Proofs.YtdailnkioldbnaaW.PrintMore
theorem CrcOne : undercroftlaw01_CrcOne.Pure := by
  intro l0 a1 a2 hmax hsz hwf hwf1 hwf2
  have hu := X.u8all_wf hwf
  have h2 : 0 ≤ a2 ∧ a2 < 256 := by
    simp [Lit.wf, IntKind.max, IntKind.min, IntKind.bits, IntKind.signed] at hwf2
    omega
  unfold undercroftlaw01_CrcOne.f
  rw [show undercroftlaw01_alive.f = some true from rfl, Option.bind_some, if_pos rfl]
  by_cases h0 : l0.length = 0
  · rw [if_pos (by omega), sum_f (show X.u8all [] = true from rfl), Option.bind_some]
    have : X.crcMore 0 [] = 0 := by decide
    rw [this]
    rfl
  · rw [if_neg (by omega), u64_wrap, u64_wrap, if_neg (by omega), Option.bind_some, if_pos (by simp; omega), Option.bind_some, List.nil_append]
    obtain ⟨k, hk⟩ : ∃ k : Nat, wrap64 (Int.tmod (a1 % 18446744073709551616) ((l0.length : Int) % 18446744073709551616)) = (k : Int) ∧ k < l0.length := by
      have e1 : (l0.length : Int) % 18446744073709551616 = (l0.length : Int) := by omega
      have e2 : Int.tmod (a1 % 18446744073709551616) (l0.length : Int) = (a1 % 18446744073709551616) % (l0.length : Int) := Int.tmod_eq_emod_of_nonneg (by omega)
      have e3 := Int.emod_nonneg (a1 % 18446744073709551616) (show (l0.length : Int) ≠ 0 by omega)
      have e4 := Int.emod_lt_of_pos (a1 % 18446744073709551616) (show (0 : Int) < (l0.length : Int) by omega)
      refine ⟨((a1 % 18446744073709551616) % (l0.length : Int)).toNat, ?_, by omega⟩
      rw [e1, e2, wrap64_id (by omega) (by omega)]
      omega
    rw [hk.1, if_pos (by omega), if_pos (by omega), Int.toNat_natCast, sum_f (X.u8all_set hu k h2.1 h2.2), Option.bind_some, sum_f hu, Option.bind_some, if_pos (by omega)]
    have hrd : rd l0 (k : Int) = l0.getD k 0 := by unfold rd; rw [Int.toNat_natCast]
    have hc := X.u8all_at hu k hk.2
    rw [hrd]
    by_cases he : a2 = l0.getD k 0
    · have hs : l0.set k a2 = l0 := by
        rw [he, List.getD_eq_getElem?_getD, List.getElem?_eq_getElem hk.2]
        exact List.set_getElem_self hk.2
      rw [hs, ← he]
      simp
    · have hne : X.crcMore 0 (l0.set k a2) ≠ X.crcMore 0 l0 := by
        refine X.sum_burst l0 (l0.set k a2) hu (X.u8all_set hu k h2.1 h2.2) (List.length_set ..) 0 (a2.toNat ^^^ (l0.getD k 0).toNat) (8 * k) ?_ ?_ (by omega) (X.le_set l0 k a2 hk.2)
        · exact Nat.lt_trans (Nat.xor_lt_two_pow (n := 8) (by omega) (by omega)) (by decide)
        · intro hx
          have hy : a2.toNat = (l0.getD k 0).toNat := by
            have := congrArg (· ^^^ (l0.getD k 0).toNat) hx
            simp only [Nat.xor_assoc, Nat.xor_self, Nat.xor_zero, Nat.zero_xor] at this
            exact this
          exact he (by omega)
      rw [beq_eq_false_iff_ne.2 hne, beq_eq_false_iff_ne.2 he]
      rfl
end Go.Proofs.Ytdailnkioldbnaa.Pure
