/- InodeBack: an inode's bytes are read again with its own number, and with no other one; no condition. -/
import Derived.Test.YtkpkmkgmpggjaaaUx18
import Derived.Test.YtkpkmkgmpggjaaaPInode3
namespace Go.Proofs.Ytkpkmkgmpggjaaa.Pure
open Go Go.RowKit Go.Proofs.Ytkpkmkgmpggjaaa.U Go.Proofs.YtkpkmkgmpggjaaaW.PrintWords Go.Proofs.YtkpkmkgmpggjaaaW.PrintLast Go.Proofs.YtkpkmkgmpggjaaaW.PrintMore
set_option linter.unusedVariables false
set_option linter.unusedSimpArgs false
theorem back_zero (n m : Int) (hn : 0 ≤ n ∧ n ≤ 1048576) : undercroftlaw09_InodeBack.f 500 0 0 0 false 0 [] n m = some true := by
  have he : inode_Encode.f 0 0 0 false 0 [] n = some (List.replicate 128 0, 0) := by
    have := encode_f Ino.zero zero_wf n
    unfold encOf at this
    rw [if_pos hn, if_pos zero_none] at this
    exact this
  have hs : undercroftref09_Same.f 0 0 0 false 0 [] 0 0 0 false 0 [] = some true := same_refl Ino.zero
  unfold undercroftlaw09_InodeBack.f
  rw [alive_true _ (by omega), Option.bind_some, if_pos rfl, he, Option.bind_some]
  dsimp only
  rw [if_pos rfl, decode_f _ (zeros_u8' 128) n _ (by omega), Option.bind_some, decode_f _ (zeros_u8' 128) m _ (by omega), Option.bind_some, dec_zero n hn]
  show (if (0 : Int) = 0 then (undercroftref09_Same.f 0 0 0 false 0 [] 0 0 0 false 0 []).bind _ else _) = _
  rw [if_pos rfl, hs, Option.bind_some, if_pos rfl, List.length_replicate, show (((128 : Nat) : Int) != 128) = false from rfl]
  unfold undercroftlaw09_InodeBack.j0
  dsimp only
  rw [if_neg (by decide), if_pos rfl]
  unfold undercroftlaw09_InodeBack.j1
  dsimp only
  rw [if_pos rfl]
  by_cases hm : 0 ≤ m ∧ m ≤ 1048576
  · rw [dec_zero m hm]
    show (if (0 : Int) = 0 then (undercroftref09_Same.f 0 0 0 false 0 [] 0 0 0 false 0 []).bind _ else _) = _
    rw [if_pos rfl, hs, Option.bind_some, if_pos rfl]
  · unfold decOf
    rw [if_neg hm]
    show (if (1 : Int) = 0 then _ else _) = _
    rw [if_neg (by decide)]
    by_cases h0 : m < 0
    · rw [if_pos h0]
    · rw [if_neg h0, decide_eq_true (by omega)]
theorem back_ino (x : Ino) (hx : x.Wf) (n m : Int) : undercroftlaw09_InodeBack.f 500 x.kind x.links x.size x.inl x.attrs x.body n m = some true := by
  by_cases hn : 0 ≤ n ∧ n ≤ 1048576
  · by_cases hz : x.none = true
    · obtain rfl := none_zero hz
      exact back_zero n m hn
    · by_cases ho : x.ok = true
      · unfold undercroftlaw09_InodeBack.f
        have hu := Ino.enc_u8 hx.body n
        have hk := (Ino.ok_tells ho).1
        rw [alive_true _ (by omega), Option.bind_some, if_pos rfl, encode_f x hx, Option.bind_some, encOf_ok x ho n hn]
        dsimp only
        rw [if_pos rfl, decode_f _ hu n _ (by omega), Option.bind_some, decode_f _ hu m _ (by omega), Option.bind_some, dec_enc x ho n hn]
        show (if (0 : Int) = 0 then (undercroftref09_Same.f x.kind x.links x.size x.inl x.attrs x.body x.kind x.links x.size x.inl x.attrs x.body).bind _ else _) = _
        rw [if_pos rfl, same_refl x, Option.bind_some, if_pos rfl, Ino.enc_length (Ino.ok_len ho), show (((128 : Nat) : Int) != 128) = false from rfl]
        unfold undercroftlaw09_InodeBack.j0
        dsimp only
        rw [if_neg (by decide), if_neg (by omega)]
        unfold undercroftlaw09_InodeBack.j1
        dsimp only
        by_cases hm : m = n
        · subst hm
          rw [beq_self_eq_true, if_pos rfl, dec_enc x ho m hn]
          show (if (0 : Int) = 0 then (undercroftref09_Same.f x.kind x.links x.size x.inl x.attrs x.body x.kind x.links x.size x.inl x.attrs x.body).bind _ else _) = _
          rw [if_pos rfl, same_refl x, Option.bind_some, if_pos rfl]
        · rw [if_neg (by rw [beq_iff_eq]; exact hm), dec_other x ho hx.body n m hn hm]
          show (if (if 0 ≤ m ∧ m ≤ 1048576 then (13 : Int) else 1) = 0 then _ else (undercroftref09_None.f 0 0 0 false 0 []).bind _) = _
          rw [if_neg (by split <;> decide), refNone_zero, Option.bind_some]
      · unfold undercroftlaw09_InodeBack.f
        rw [alive_true _ (by omega), Option.bind_some, if_pos rfl, encode_f x hx, Option.bind_some]
        unfold encOf
        rw [if_pos hn, if_neg hz, if_neg ho, if_neg (by decide)]
        rfl
  · unfold undercroftlaw09_InodeBack.f
    rw [alive_true _ (by omega), Option.bind_some, if_pos rfl, encode_f x hx, Option.bind_some]
    unfold encOf
    rw [if_neg hn, if_neg (by decide)]
    rfl
theorem InodeBack (a0_0 a0_1 a0_2 : Int) (a0_3 : Bool) (a0_4 : Int) (l0_5 : List Int) (a1 a2 : Int) (w0 : (Lit.int .i64 a0_0).wf = true) (w1 : (Lit.int .i64 a0_1).wf = true) (w2 : (Lit.int .i64 a0_2).wf = true) (w4 : (Lit.int .i64 a0_4).wf = true)
    (hw : ∀ c ∈ l0_5, (Lit.int .u8 c).wf = true) (y : l0_5.length * 1 ≤ 140737488351232) (_w1 : (Lit.int .i64 a1).wf = true) (_w2 : (Lit.int .i64 a2).wf = true) : ∃ k, undercroftlaw09_InodeBack.f k a0_0 a0_1 a0_2 a0_3 a0_4 l0_5 a1 a2 = some true :=
  ⟨500, back_ino ⟨a0_0, a0_1, a0_2, a0_3, a0_4, l0_5⟩ (ino_wf w0 w1 w2 w4 hw y) a1 a2⟩
end Go.Proofs.Ytkpkmkgmpggjaaa.Pure
