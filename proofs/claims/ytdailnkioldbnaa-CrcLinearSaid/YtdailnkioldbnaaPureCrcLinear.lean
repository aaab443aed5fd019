/- CrcLinear: the sum of the exclusive or of three lists of bytes is the exclusive or of their sums, at any three lists; no condition. -/
import Derived.Test.YtdailnkioldbnaaUx7
import Derived.Test.YtdailnkioldbnaaUx17
import Derived.Test.YtdailnkioldbnaaPCrc
import Derived.Test.YtdailnkioldbnaaXCrc3
namespace Go.Proofs.Ytdailnkioldbnaa.Pure
open Go Go.RowKit Go.Proofs.Ytdailnkioldbnaa.U Go.Proofs.YtdailnkioldbnaaW.PrintWords Go.Proofs.YtdailnkioldbnaaW.PrintLast Go.Proofs.YtdailnkioldbnaaW.PrintMore
/-- The first i bytes of the three lists together. -/
def lin (a b c : List Int) : Nat → List Int
  | 0 => []
  | i + 1 => lin a b c i ++ [Go.bits .xor .u8 (Go.bits .xor .u8 (a.getD i 0) (b.getD i 0)) (c.getD i 0)]
theorem lin_length (a b c : List Int) (i : Nat) : (lin a b c i).length = i := by
  induction i with
  | zero => rfl
  | succ i ih => simp only [lin, List.length_append, ih, List.length_singleton]
theorem lin_tells (a b c : List Int) (ha : X.u8all a = true) (hb : X.u8all b = true) (hc : X.u8all c = true) (s : BitVec 32) (i : Nat) (h1 : i ≤ a.length) (h2 : i ≤ b.length) (h3 : i ≤ c.length) :
    X.u8all (lin a b c i) = true ∧ X.regV (s ^^^ s ^^^ s) (lin a b c i) = X.regV s (a.take i) ^^^ X.regV s (b.take i) ^^^ X.regV s (c.take i) := by
  induction i with
  | zero => exact ⟨rfl, by simp [lin, X.regV]⟩
  | succ i ih =>
    obtain ⟨g1, g2⟩ := ih (by omega) (by omega) (by omega)
    have q1 := X.ofInt_xor_u8 _ _ (X.u8all_at ha i (by omega)) (X.u8all_at hb i (by omega))
    have q2 := X.ofInt_xor_u8 _ _ q1.1 (X.u8all_at hc i (by omega))
    refine ⟨X.u8all_append.2 ⟨g1, X.u8all_iff.2 (fun x hx => by rw [List.mem_singleton.1 hx]; exact q2.1)⟩, ?_⟩
    rw [X.regV_snoc s a i (by omega), X.regV_snoc s b i (by omega), X.regV_snoc s c i (by omega)]
    simp only [lin]
    rw [X.regV_append, g2]
    exact X.byteV_xor3 _ _ _ _ _ _ _ (by rw [q2.2, q1.2])
theorem linear_l0 (a b c : List Int) (n : Nat) (ha : X.u8all a = true) (hb : X.u8all b = true) (hc : X.u8all c = true) (h1 : n ≤ a.length) (h2 : n ≤ b.length) (h3 : n ≤ c.length) (hm : n ≤ 140737488351232) :
    ∀ (d i k : Nat), i + d = n → d < k → undercroftlaw01_CrcLinear.l0 k a b c (n : Int) (lin a b c i) (i : Int) = some true
  | 0, i, k, hi, hk => by
    obtain ⟨k, rfl⟩ : ∃ m, k = m + 1 := ⟨k - 1, by omega⟩
    obtain rfl : i = n := by omega
    obtain ⟨g1, g2⟩ := lin_tells a b c ha hb hc (~~~ (BitVec.ofInt 32 0)) i h1 h2 h3
    rw [undercroftlaw01_CrcLinear.l0, if_neg (by omega), sum_f g1, Option.bind_some, if_pos (by omega), if_pos (by omega), Int.toNat_natCast, sum_f (X.u8all_take ha _), Option.bind_some, if_pos (by omega), sum_f (X.u8all_take hb _), Option.bind_some, if_pos (by omega), sum_f (X.u8all_take hc _), Option.bind_some]
    have hs : (~~~ (BitVec.ofInt 32 0) : BitVec 32) ^^^ ~~~ (BitVec.ofInt 32 0) ^^^ ~~~ (BitVec.ofInt 32 0) = ~~~ (BitVec.ofInt 32 0) := by decide
    rw [hs] at g2
    unfold X.crcMore
    rw [X.xor_word, X.xor_word, g2, X.not_xor3]
    simp
  | d + 1, i, k, hi, hk => by
    obtain ⟨k, rfl⟩ : ∃ m, k = m + 1 := ⟨k - 1, by omega⟩
    have ih := linear_l0 a b c n ha hb hc h1 h2 h3 hm d (i + 1) k (by omega) (by omega)
    have hw : wrap64 ((i : Int) + 1) = ((i + 1 : Nat) : Int) := by rw [wrap64_id (by omega) (by omega)]; omega
    have hrd : ∀ l : List Int, rd l (i : Int) = l.getD i 0 := fun l => by unfold rd; rw [Int.toNat_natCast]
    rw [undercroftlaw01_CrcLinear.l0, if_pos (by omega), if_pos (by omega), if_pos (by omega), if_pos (by omega), if_pos (by omega), if_pos (by rw [lin_length]; omega), hw, hrd, hrd, hrd]
    exact ih
theorem CrcLinear : undercroftlaw01_CrcLinear.Pure := by
  intro l0 l1 l2 hm0 hs0 hw0 hm1 hs1 hw1 hm2 hs2 hw2
  obtain ⟨n, hn, h0, h1, h2⟩ : ∃ n : Nat, mn (mn (l0.length : Int) (l1.length : Int)) (l2.length : Int) = (n : Int) ∧ n ≤ l0.length ∧ n ≤ l1.length ∧ n ≤ l2.length := by
    unfold mn
    split <;> split <;> exact ⟨_, rfl, by omega, by omega, by omega⟩
  refine ⟨n + 1, ?_⟩
  unfold undercroftlaw01_CrcLinear.f
  rw [show undercroftlaw01_alive.f = some true from rfl, Option.bind_some, if_pos rfl, hn]
  exact linear_l0 l0 l1 l2 n (X.u8all_wf hw0) (X.u8all_wf hw1) (X.u8all_wf hw2) h0 h1 h2 (by omega) n 0 (n + 1) (by omega) (by omega)
end Go.Proofs.Ytdailnkioldbnaa.Pure
