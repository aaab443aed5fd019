/- RecordTorn: a record whose blocks are changed within 32 bits side by side is not read, at any record, place and burst; no condition. -/
import Derived.Test.YtpihpabofgmahaaUx28
import Derived.Test.YtpihpabofgmahaaPTorn
namespace Go.Proofs.Ytpihpabofgmahaa.Pure
open Go Go.RowKit Go.Proofs.Ytpihpabofgmahaa.U Go.Proofs.YtpihpabofgmahaaW.PrintWords Go.Proofs.YtpihpabofgmahaaW.PrintLast Go.Proofs.YtpihpabofgmahaaW.PrintMore
set_option linter.unusedVariables false
set_option linter.unusedSimpArgs false
theorem torn_l0 (a : Int) (ws : List S43) (rs : List Int) (N : Nat) (z : List Int) (hzl : 8 * z.length = N) (hN : N ≤ 140000) (hzu : X.u8all z = true) (burst first : Nat) (hu : burst < 4294967296) (hf : first < N) (hok : (decOf (X.flipTo N first burst z 32) a).2.2.2.2 = !X.flipped N first burst 32) : ∀ (d j k : Nat), j + d = 32 → d < k →
    undercroftlaw03_RecordTorn.l0 k (burst : Int) (X.flipTo N first burst z j) (first : Int) (X.flipped N first burst j) (j : Int) a ws rs = some true
  | 0, j, k, hj, hk => by
    obtain ⟨k, rfl⟩ : ∃ m, k = m + 1 := ⟨k - 1, by omega⟩
    obtain rfl : j = 32 := by omega
    obtain ⟨h1, h2, -⟩ := X.flipTo_tells N first burst z hzl.symm hzu 32
    rw [undercroftlaw03_RecordTorn.l0, if_neg (by omega), decode_f h2 (by rw [h1]; omega) a, Option.bind_some, hok]
    cases X.flipped N first burst 32 <;> rfl
  | d + 1, j, k, hj, hk => by
    obtain ⟨k, rfl⟩ : ∃ m, k = m + 1 := ⟨k - 1, by omega⟩
    have ih := torn_l0 a ws rs N z hzl hN hzu burst first hu hf hok d (j + 1) k (by omega) (by omega)
    obtain ⟨h1, h2, -⟩ := X.flipTo_tells N first burst z hzl.symm hzu j
    have hw : wrap64 ((j : Int) + 1) = ((j + 1 : Nat) : Int) := by rw [wrap64_id (by omega) (by omega)]; omega
    have hp : wrap64 ((first : Int) + (j : Int)) = ((first + j : Nat) : Int) := by rw [wrap64_id (by omega) (by omega)]; omega
    have hd : wrap64 (Int.tdiv ((first + j : Nat) : Int) 8) = (((first + j) / 8 : Nat) : Int) := by
      have : Int.tdiv ((first + j : Nat) : Int) 8 = (((first + j) / 8 : Nat) : Int) := rfl
      rw [this, wrap64_id (by omega) (by omega)]
    have hr : Int.tmod ((first + j : Nat) : Int) 8 = (((first + j) % 8 : Nat) : Int) := rfl
    have hn : wrap64 (8 * ((X.flipTo N first burst z j).length : Int)) = (N : Int) := by rw [h1, wrap64_id (by omega) (by omega)]; omega
    rw [undercroftlaw03_RecordTorn.l0, if_pos (by omega), if_pos (by omega), X.hit_test burst j (by omega) hu, hw, hp, hd, hr, hn]
    simp only [X.flipTo, X.flipped] at ih
    by_cases hbit : burst.testBit j = true
    · rw [if_pos hbit, if_pos rfl]
      by_cases hlt : first + j < N
      · have hh : X.hit N first burst j = true := by simp [X.hit, hbit, hlt]
        rw [if_pos hh, hh, Bool.true_or] at ih
        rw [if_pos (by omega), if_pos (by omega), if_pos (by omega), if_pos (by omega), X.turn_bit _ h2 (first + j) (by omega), Int.toNat_natCast]
        exact ih
      · have hh : X.hit N first burst j = false := by simp [X.hit, hlt]
        rw [if_neg (by rw [hh]; decide), hh, Bool.false_or] at ih
        rw [if_neg (by omega)]
        exact ih
    · have hh : X.hit N first burst j = false := by simp [X.hit, hbit]
      rw [if_neg (by rw [hh]; decide), hh, Bool.false_or] at ih
      rw [if_neg hbit, if_neg (by decide)]
      exact ih
theorem torn_first (a1 : Int) (N : Nat) (h0 : 0 < N) (hN : N ≤ 140000) : ∃ k : Nat, wrap64 (Int.tmod (IntKind.u64.wrap a1) (IntKind.u64.wrap (N : Int))) = (k : Int) ∧ k < N := by
  have e1 : IntKind.u64.wrap (N : Int) = (N : Int) := by rw [u64_wrap]; omega
  have e0 : 0 ≤ IntKind.u64.wrap a1 := by rw [u64_wrap]; omega
  have e2 : Int.tmod (IntKind.u64.wrap a1) (N : Int) = (IntKind.u64.wrap a1) % (N : Int) := Int.tmod_eq_emod_of_nonneg e0
  have h1 : 0 ≤ (IntKind.u64.wrap a1) % (N : Int) := Int.emod_nonneg _ (by omega)
  have h2 : (IntKind.u64.wrap a1) % (N : Int) < (N : Int) := Int.emod_lt_of_pos _ (by omega)
  rw [e1, e2]
  generalize (IntKind.u64.wrap a1) % (N : Int) = r at *
  refine ⟨r.toNat, ?_, by omega⟩
  rw [wrap64_id (by omega) (by omega)]
  omega
theorem RecordTorn (a : Int) (ws : List S43) (rs : List Int) (a1 a2 : Int) (w0 : (Lit.int .u64 a).wf = true) (hw : ∀ x ∈ ws, (Lit.int .i64 x.f0).wf = true ∧ (∀ c ∈ x.f1, (Lit.int .u8 c).wf = true) ∧ x.f1.length * 1 ≤ 140737488351232) (y1 : ws.length * 32 ≤ 140737488351232) (hr : ∀ x ∈ rs, (Lit.int .i64 x).wf = true) (y2 : rs.length * 8 ≤ 140737488351232)
    (_w1 : (Lit.int .i64 a1).wf = true) (hwf2 : (Lit.int .u32 a2).wf = true) : ∃ k, undercroftlaw03_RecordTorn.f k a ws rs a1 a2 = some true := by
  have hc := came w0 hw y1 hr y2
  have h2 : 0 ≤ a2 ∧ a2 < 4294967296 := by
    simp [Lit.wf, IntKind.max, IntKind.min, IntKind.bits, IntKind.signed] at hwf2
    omega
  obtain ⟨burst, rfl⟩ := Int.eq_ofNat_of_zero_le h2.1
  refine ⟨50, ?_⟩
  unfold undercroftlaw03_RecordTorn.f
  rw [alive_true, Option.bind_some, if_pos rfl, hc.enc, Option.bind_some]
  by_cases hm : mayB ws rs = true
  · rw [if_pos hm, if_pos rfl]
    have hl := encL_length (seq := a) hm
    obtain ⟨hc1, -⟩ := may_facts hm
    have hd := hc.data
    have hu := encL_u8 (seq := a) (rs := rs) hd
    have htorn := @torn a ws rs hm hd
    have hdec : (decOf (encL a ws rs) a).2.2.2.2 = true := by
      have := dec_enc (a := a) hm hd []
      rw [List.append_nil] at this
      rw [this]
    show undercroftlaw03_RecordTorn.j0 50 a1 (burst : Int) (encL a ws rs) 0 (((encL a ws rs).length : Int) == 0) a ws rs = some true
    have hlen : 512 ≤ (encL a ws rs).length ∧ (encL a ws rs).length ≤ 15360 := by rw [hl]; omega
    generalize encL a ws rs = b at *
    have e0 : ((b.length : Int) == 0) = false := beq_eq_false_iff_ne.mpr (by omega)
    have eN : wrap64 (8 * (b.length : Int)) = ((8 * b.length : Nat) : Int) := by rw [wrap64_id (by omega) (by omega)]; omega
    obtain ⟨first, hf, hf2⟩ := torn_first a1 (8 * b.length) (by omega) (by omega)
    rw [e0, show (50 : Nat) = 49 + 1 from rfl, undercroftlaw03_RecordTorn.j0, if_neg (by decide), eN, if_neg (by rw [u64_wrap]; omega), hf]
    refine torn_l0 a ws rs (8 * b.length) b rfl (by omega) hu burst first (by omega) hf2 ?_ 32 0 49 (by omega) (by omega)
    obtain ⟨t1, t2, t3⟩ := X.flipTo_tells (8 * b.length) first burst b rfl hu 32
    by_cases ht : X.flipped (8 * b.length) first burst 32 = true
    · rw [ht]
      exact htorn t2 t1 (X.flipW_lt _ _ _ 32) ((X.flipped_iff _ _ _ _).1 ht) t3
    · have ht' := Bool.eq_false_iff.2 ht
      rw [ht', flipTo_same _ _ _ _ _ ht']
      rw [hdec]
      rfl
  · rw [if_neg hm, if_neg (by decide)]
    rfl
end Go.Proofs.Ytpihpabofgmahaa.Pure
