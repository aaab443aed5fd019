/- Ux9: what this claim uses. Laid by slim.py (ours). -/
import Derived.Test.YtpihpabofgmahaaKUx0
import Derived.Test.YtpihpabofgmahaaKUx8
namespace Go.Proofs.Ytpihpabofgmahaa.U
open Go.RowKit Go.Proofs.YtpihpabofgmahaaW.PrintWords Go.Proofs.YtpihpabofgmahaaW.PrintLast Go.Proofs.YtpihpabofgmahaaW.PrintMore
attribute [local go_sem] max2_int min2_int max_two min_two max_three min_three max_four min_four
set_option linter.unusedVariables false
set_option linter.unusedSimpArgs false
def numL : List Int → Nat
  | [] => 0
  | c :: t => c.toNat + 256 * numL t
theorem numL_lt : ∀ (l : List Int), X.u8all l = true → numL l < 256 ^ l.length
  | [], _ => by simp [numL]
  | c :: t, h => by
    have hc := X.u8all_iff.1 h c List.mem_cons_self
    have ht := numL_lt t (X.u8all_iff.2 (fun x hx => X.u8all_iff.1 h x (List.mem_cons_of_mem _ hx)))
    simp only [numL, List.length_cons, Nat.pow_succ]
    have : c.toNat < 256 := by omega
    omega
theorem nu_wrap (x : Int) : IntKind.u64.wrap x = x % 18446744073709551616 := by simp [IntKind.wrap, IntKind.bits, IntKind.signed]
theorem nu_wrap64 {x : Int} (h1 : -9223372036854775808 ≤ x) (h2 : x ≤ 9223372036854775807) : wrap64 x = x := by unfold wrap64; omega
theorem nu_or (k x y : Nat) (hx : x < 2 ^ k) (h : x + y * 2 ^ k < 18446744073709551616) : Go.bits .or .u64 ((y * 2 ^ k : Nat) : Int) (x : Int) = ((x + y * 2 ^ k : Nat) : Int) := by
  have hp : 0 < 2 ^ k := Nat.two_pow_pos k
  show IntKind.u64.wrap _ = _
  rw [nu_wrap]
  show ((BitVec.ofInt 64 ((y * 2 ^ k : Nat) : Int) ||| BitVec.ofInt 64 (x : Int)).toNat : Int) % _ = _
  rw [BitVec.ofInt_natCast, BitVec.ofInt_natCast, BitVec.toNat_or, BitVec.toNat_ofNat, BitVec.toNat_ofNat, Nat.mod_eq_of_lt (by omega), Nat.mod_eq_of_lt (by omega)]
  have : y * 2 ^ k ||| x = x + y * 2 ^ k := by
    rw [Nat.mul_comm, ← Nat.two_pow_add_eq_or_of_lt hx, Nat.add_comm]
  rw [this]
  omega
theorem nu_l0 (l : List Int) (h : X.u8all l = true) (h8 : l.length ≤ 8) : ∀ (i k : Nat), i ≤ l.length → i < k →
    crc_Number.l0 k l (numL (l.drop i) : Int) ((i : Int) - 1) = some ((numL l : Int), true)
  | 0, k, _, hk => by
    obtain ⟨k, rfl⟩ : ∃ m, k = m + 1 := ⟨k - 1, by omega⟩
    rw [crc_Number.l0, if_neg (by omega)]
    rfl
  | i + 1, k, hi, hk => by
    obtain ⟨k, rfl⟩ : ∃ m, k = m + 1 := ⟨k - 1, by omega⟩
    have ih := nu_l0 l h h8 i k (by omega) (by omega)
    have hc := X.u8all_at h i (by omega)
    have he : l.drop i = l.getD i 0 :: l.drop (i + 1) := by
      rw [List.drop_eq_getElem_cons (by omega), List.getD_eq_getElem?_getD, List.getElem?_eq_getElem (by omega)]
      rfl
    have hlt := numL_lt _ (X.u8all_drop h (i + 1))
    rw [List.length_drop] at hlt
    have hle : 256 ^ (l.length - (i + 1)) ≤ 256 ^ 7 := Nat.pow_le_pow_right (by decide) (by omega)
    have hnum : numL (l.drop i) = (l.getD i 0).toNat + 256 * numL (l.drop (i + 1)) := by rw [he]; rfl
    have e1 : ((i + 1 : Nat) : Int) - 1 = (i : Int) := by omega
    rw [e1, crc_Number.l0, if_pos (by omega), if_pos (by omega), if_pos (by omega)]
    have hrd : rd l (i : Int) = l.getD i 0 := by unfold rd; rw [Int.toNat_natCast]
    have hw : wrap64 ((i : Int) - 1) = (i : Int) - 1 := nu_wrap64 (by omega) (by omega)
    rw [hrd, hw]
    generalize l.getD i 0 = c at *
    obtain ⟨n, rfl⟩ := Int.eq_ofNat_of_zero_le hc.1
    rw [Int.toNat_natCast] at hnum
    have hor := nu_or 8 n (numL (l.drop (i + 1))) (by omega) (by omega)
    have e2 : IntKind.u64.wrap ((numL (l.drop (i + 1)) : Int) * 256) = ((numL (l.drop (i + 1)) * 2 ^ 8 : Nat) : Int) := by rw [nu_wrap]; omega
    have e3 : IntKind.u64.wrap ((n : Nat) : Int) = (n : Int) := by rw [nu_wrap]; omega
    rw [e2, e3, hor, show n + numL (l.drop (i + 1)) * 2 ^ 8 = numL (l.drop i) from by rw [hnum]; omega]
    exact ih
theorem nu_f (l : List Int) (h : X.u8all l = true) (h8 : l.length ≤ 8) : crc_Number.f 9 l = some ((numL l : Int), true) := by
  unfold crc_Number.f
  rw [if_neg (by omega)]
  have := nu_l0 l h h8 l.length 9 (Nat.le_refl _) (by omega)
  rw [List.drop_of_length_le (Nat.le_refl _)] at this
  rw [nu_wrap64 (by omega) (by omega)]
  exact this
def cutL (l : List Int) (a n : Nat) : List Int := (l.take (a + n)).drop a
theorem cutL_length {l : List Int} {a n : Nat} (h : a + n ≤ l.length) : (cutL l a n).length = n := by
  unfold cutL
  rw [List.length_drop, List.length_take]
  omega
theorem cutL_u8 {l : List Int} (h : X.u8all l = true) (a n : Nat) : X.u8all (cutL l a n) = true := X.u8all_drop (X.u8all_take h _) _
theorem cutL_run (A : Option Addr) (c : Nat) (l : List Int) (a n : Nat) (hc : l.length ≤ c) (h : a + n ≤ l.length) : ∃ A' : Option Addr,
    (∀ W : World, (Instr.slice 29 (.slice A l.length c) (some (.int .i64 (a : Int))) (some (.int .i64 ((a : Int) + (n : Int)))) none).run Try.prog W = .ok (.slice A' n (c - a)) W) ∧
    (∀ w : World, Kd.C (Kd.int .u8) w A l.length l → Kd.C (Kd.int .u8) w A' n (cutL l a n)) ∧ n ≤ c - a := by
  obtain ⟨i0, hi0, _, hsz, _⟩ := info_parts info5
  obtain ⟨A', h1, h2, h3⟩ := print_mid_of (P := Try.prog) (Value.int .u8) 0 29 5 .i64 .i64 Try.underlying29 hi0 hsz A c l (a : Int) ((a : Int) + (n : Int)) (by omega) (by omega) (by omega) hc
  have e1 : ((a : Int) + (n : Int)).toNat = a + n := by omega
  have e2 : ((l.take (a + n)).drop a).length = n := cutL_length h
  simp only [e1, Int.toNat_natCast, e2] at h1 h2 h3
  exact ⟨A', h1, fun w hC => Kd.C_of_reads (h1 := fun _ => rfl) (h2 w (Kd.reads_of_C hC)), h3⟩
set_option maxHeartbeats 4000000 in
set_option maxRecDepth 100000 in
theorem record_get.calls (g : Nat) (A : Option Addr) (c : Nat) (l : List Int) (a n : Nat) (w : World) (hC : Kd.C (Kd.int .u8) w A l.length l) (hc : l.length ≤ c) (hu : X.u8all l = true) (hb : X.Blk w g #[.slice A l.length c, .int .i64 (a : Int)] 56) (hn : n ≤ 8) (ha : a + n ≤ l.length) (hlt : a < l.length) :
    Calls Try.prog 31 #[.pointer (some ⟨g, 0, none⟩), .int .i64 (n : Int)] w fun e w' => e = .returned (.int .u64 (numL (cutL l a n) : Int)) ∧ ∃ m, w' = (w.drewN m).setCell ⟨g, 1, none⟩ (.int .i64 ((a + n : Nat) : Int)) := by
  have HC := Aside0.mk hC
  have HBX := Aside0.mk hb
  have HNU := Aside0.mk (nu_f (cutL l a n) (cutL_u8 hu a n) (by rw [cutL_length ha]; exact hn))
  have hmax := Kd.C_max hC
  clear hC hb hu
  go_enter Try.func31, Try.ntmps31
  go_wp2_with fail
  have HB1 := Aside0.mk (HBX.out.below (below_drew1 (Below.refl _ _)) HBX.out.lt)
  have hw1 : IntKind.i64.wrap ((a : Int) + (n : Int)) = (a : Int) + (n : Int) := IntWalk.i64_in _ (by omega)
  obtain ⟨A', hcut, hcutC, hcl⟩ := cutL_run A c l a n hc ha
  have HCC := Aside0.mk hcutC
  have HLE := Aside0.mk (cutL_length ha)
  clear hcutC
  obtain ⟨q, hq⟩ : ∃ q, q = cutL l a n := ⟨_, rfl⟩
  have HQE := Aside0.mk hq
  rw [← hq] at HCC HLE HNU
  clear hq
  refine start_ (n := 21) (S := (fun w' => w'.cell? ⟨g, 0, none⟩ = some (.slice A l.length c) ∧ w'.cell? ⟨g, 1, none⟩ = some (.int .i64 (a : Int)))) (ds := []) #[false, false, false, false, false, false, false, false, false, false, false, false, false, false, false, false, false, false, false, false, false] (by kernel_rfl) rfl rfl ⟨HB1.out.cell 0 _ rfl, HB1.out.cell 1 _ rfl⟩ (fun hHeld => ?_)
  refine pure_ (i := 0) (N := some 8) (v := ?_) (a' := ?_) #[true, false, false, false, false, false, false, false, false, false, false, false, false, false, false, false, false, false, false, false, false] rfl rfl (by kernel_rfl) (fun _ _ _ h => h) (Or.inl ⟨by rfl, ?_⟩) ?_ ?_
  rotate_left
  · intro w'
    go_simp
    with_reducible rfl
  rotate_left
  · simp only [Act.put, List.setIfInBounds_toArray, List.set_cons_zero, List.set_cons_succ, i64_w, i32_w]
    rfl
  refine pure_ (i := 1) (N := some 9) (v := ?_) (a' := ?_) #[true, true, false, false, false, false, false, false, false, false, false, false, false, false, false, false, false, false, false, false, false] rfl rfl (by kernel_rfl) (fun _ _ _ h => h) (Or.inl ⟨by rfl, ?_⟩) ?_ ?_
  rotate_left
  · intro w'
    go_simp
    with_reducible rfl
  rotate_left
  · simp only [Act.put, List.setIfInBounds_toArray, List.set_cons_zero, List.set_cons_succ, i64_w, i32_w]
    rfl
  refine pure_ (i := 2) (N := some 10) (v := ?_) (a' := ?_) #[true, true, true, false, false, false, false, false, false, false, false, false, false, false, false, false, false, false, false, false, false] rfl rfl (by kernel_rfl) (fun _ _ _ h => h) (Or.inl ⟨by rfl, ?_⟩) ?_ ?_
  rotate_left
  · intro w'
    go_simp
    with_reducible rfl
  rotate_left
  · simp only [Act.put, List.setIfInBounds_toArray, List.set_cons_zero, List.set_cons_succ, i64_w, i32_w]
    rfl
  refine take_ (i := 3) (N := some 11) (v := ?_) (a' := ?_) #[true, true, true, true, false, false, false, false, false, false, false, false, false, false, false, false, false, false, false, false, false] rfl rfl (by kernel_rfl) (fun _ _ _ h => h) (Or.inl ⟨by rfl, ?_⟩) hHeld ?_ ?_
  rotate_left
  · intro w' hs_
    obtain ⟨hs0, hs1⟩ := hs_
    go_simp
    with_reducible rfl
  rotate_left
  · simp only [Act.put, List.setIfInBounds_toArray, List.set_cons_zero, List.set_cons_succ, i64_w, i32_w]
    rfl
  refine pure_ (i := 4) (N := some 12) (v := ?_) (a' := ?_) #[true, true, true, true, true, false, false, false, false, false, false, false, false, false, false, false, false, false, false, false, false] rfl rfl (by kernel_rfl) (fun _ _ _ h => h) (Or.inl ⟨by rfl, ?_⟩) ?_ ?_
  rotate_left
  · intro w'
    go_simp
    with_reducible rfl
  rotate_left
  · simp only [Act.put, List.setIfInBounds_toArray, List.set_cons_zero, List.set_cons_succ, i64_w, i32_w]
    rfl
  refine pure_ (i := 5) (N := some 13) (v := ?_) (a' := ?_) #[true, true, true, true, true, true, false, false, false, false, false, false, false, false, false, false, false, false, false, false, false] rfl rfl (by kernel_rfl) (fun _ _ _ h => h) (Or.inl ⟨by rfl, ?_⟩) ?_ ?_
  rotate_left
  · intro w'
    go_simp
    with_reducible rfl
  rotate_left
  · simp only [Act.put, List.setIfInBounds_toArray, List.set_cons_zero, List.set_cons_succ, i64_w, i32_w]
    rfl
  refine pure_ (i := 6) (N := some 14) (v := ?_) (a' := ?_) #[true, true, true, true, true, true, true, false, false, false, false, false, false, false, false, false, false, false, false, false, false] rfl rfl (by kernel_rfl) (fun _ _ _ h => h) (Or.inl ⟨by rfl, ?_⟩) ?_ ?_
  rotate_left
  · intro w'
    go_simp
    with_reducible rfl
  rotate_left
  · simp only [Act.put, List.setIfInBounds_toArray, List.set_cons_zero, List.set_cons_succ, i64_w, i32_w]
    rfl
  refine take_ (i := 7) (N := some 15) (v := ?_) (a' := ?_) #[true, true, true, true, true, true, true, true, false, false, false, false, false, false, false, false, false, false, false, false, false] rfl rfl (by kernel_rfl) (fun _ _ _ h => h) (Or.inl ⟨by rfl, ?_⟩) hHeld ?_ ?_
  rotate_left
  · intro w' hs_
    obtain ⟨hs0, hs1⟩ := hs_
    go_simp
    with_reducible rfl
  rotate_left
  · simp only [Act.put, List.setIfInBounds_toArray, List.set_cons_zero, List.set_cons_succ, i64_w, i32_w]
    rfl
  refine pure_ (i := 8) (N := some 16) (v := ?_) (a' := ?_) #[true, true, true, true, true, true, true, true, true, false, false, false, false, false, false, false, false, false, false, false, false] rfl rfl (by kernel_rfl) (fun _ _ _ h => h) (Or.inl ⟨by rfl, ?_⟩) ?_ ?_
  rotate_left
  · intro w'
    go_simp
    with_reducible rfl
  rotate_left
  · simp only [Act.put, List.setIfInBounds_toArray, List.set_cons_zero, List.set_cons_succ, i64_w, i32_w]
    rfl
  refine pure_ (i := 9) (N := some 17) (v := ?_) (a' := ?_) #[true, true, true, true, true, true, true, true, true, true, false, false, false, false, false, false, false, false, false, false, false] rfl rfl (by kernel_rfl) (fun _ _ _ h => h) (Or.inl ⟨by rfl, ?_⟩) ?_ ?_
  rotate_left
  · intro w'
    go_simp
    with_reducible rfl
  rotate_left
  · simp only [Act.put, List.setIfInBounds_toArray, List.set_cons_zero, List.set_cons_succ, i64_w, i32_w]
    rfl
  refine pure_ (i := 10) (N := some 18) (v := ?_) (a' := ?_) #[true, true, true, true, true, true, true, true, true, true, true, false, false, false, false, false, false, false, false, false, false] rfl rfl (by kernel_rfl) (fun _ _ _ h => h) (Or.inl ⟨by rfl, ?_⟩) ?_ ?_
  rotate_left
  · intro w'
    go_simp
    with_reducible rfl
  rotate_left
  · simp only [Act.put, List.setIfInBounds_toArray, List.set_cons_zero, List.set_cons_succ, i64_w, i32_w]
    rfl
  refine take_ (i := 11) (N := some 19) (v := ?_) (a' := ?_) #[true, true, true, true, true, true, true, true, true, true, true, true, false, false, false, false, false, false, false, false, false] rfl rfl (by kernel_rfl) (fun _ _ _ h => h) (Or.inl ⟨by rfl, ?_⟩) hHeld ?_ ?_
  rotate_left
  · intro w' hs_
    obtain ⟨hs0, hs1⟩ := hs_
    go_simp
    with_reducible rfl
  rotate_left
  · simp only [Act.put, List.setIfInBounds_toArray, List.set_cons_zero, List.set_cons_succ, i64_w, i32_w]
    rfl
  refine pure_ (i := 12) (N := some 20) (v := ?_) (a' := ?_) #[true, true, true, true, true, true, true, true, true, true, true, true, true, false, false, false, false, false, false, false, false] rfl rfl (by kernel_rfl) (fun _ _ _ h => h) (Or.inl ⟨by rfl, ?_⟩) ?_ ?_
  rotate_left
  · intro w'
    go_simp
    with_reducible rfl
  rotate_left
  · simp only [Act.put, List.setIfInBounds_toArray, List.set_cons_zero, List.set_cons_succ, i64_w, i32_w]
    rfl
  refine pure_ (i := 13) (N := some 21) (v := ?_) (a' := ?_) #[true, true, true, true, true, true, true, true, true, true, true, true, true, true, false, false, false, false, false, false, false] rfl rfl (by kernel_rfl) (fun _ _ _ h => h) (Or.inl ⟨by rfl, ?_⟩) ?_ ?_
  rotate_left
  · intro w'
    go_simp
    with_reducible rfl
  rotate_left
  · simp only [Act.put, List.setIfInBounds_toArray, List.set_cons_zero, List.set_cons_succ, i64_w, i32_w]
    rfl
  refine pure_ (i := 14) (N := some 22) (v := ?_) (a' := ?_) #[true, true, true, true, true, true, true, true, true, true, true, true, true, true, true, false, false, false, false, false, false] rfl rfl (by kernel_rfl) (fun _ _ _ h => h) (Or.inl ⟨by rfl, ?_⟩) ?_ ?_
  rotate_left
  · intro w'
    go_simp
    with_reducible rfl
  rotate_left
  · simp only [Act.put, List.setIfInBounds_toArray, List.set_cons_zero, List.set_cons_succ, i64_w, i32_w]
    rfl
  clear hcut
  have hnum := crc_Number.calls 9 A' (c - a) q (numL q : Int) true w.drew (by rw [HLE.out]; exact HCC.out _ (Kd.C_below HC.out (below_drew1 (Below.refl _ _)))) (by rw [HLE.out]; exact hcl) HNU.out
  rw [HLE.out] at hnum
  generalize hw0 : w.drew = w1 at *
  refine one_ (i := 15) (N := some 23) #[true, true, true, true, true, true, true, true, true, true, true, true, true, true, true, true, false, false, false, false, false] rfl rfl (by kernel_rfl) (by decide) (fun K hK => ?_)
  refine goes_ Try.func38 (by kernel_rfl) rfl #[.slice A' n (c - a)] (by rfl) rfl rfl (by (try simp only [List.map_toArray, List.map_cons, List.map_nil]); first | done | rfl) ?_
  refine (hnum).mono ?_
  rintro e w2 ⟨rfl, ⟨m, rfl⟩⟩
  refine ⟨_, rfl, ?_⟩
  have HB2 := Aside0.mk (HB1.out.below (pw_below_drewN (Below.refl _ _) m) HB1.out.lt)
  clear hnum hHeld
  refine hK.out _ _ ⟨HB2.out.cell 0 _ rfl, HB2.out.cell 1 _ rfl⟩ (fun hHeld => ?_)
  clear hK K
  refine norm_ (a' := ?_) ?_ ?_
  rotate_left
  · show Act.put _ (some 23) _ = _
    simp only [Act.put, List.setIfInBounds_toArray, List.set_cons_zero, List.set_cons_succ, i64_w, i32_w]
    rfl
  refine pure_ (i := 16) (N := some 7) (v := ?_) (a' := ?_) #[true, true, true, true, true, true, true, true, true, true, true, true, true, true, true, true, true, false, false, false, false] rfl rfl (by kernel_rfl) (fun _ _ _ h => h) (Or.inl ⟨by rfl, ?_⟩) ?_ ?_
  rotate_left
  · intro w'
    go_simp
    with_reducible rfl
  rotate_left
  · simp only [Act.put, List.setIfInBounds_toArray, List.set_cons_zero, List.set_cons_succ, i64_w, i32_w]
    rfl
  refine pure_ (i := 17) (N := some 24) (v := ?_) (a' := ?_) #[true, true, true, true, true, true, true, true, true, true, true, true, true, true, true, true, true, true, false, false, false] rfl rfl (by kernel_rfl) (fun _ _ _ h => h) (Or.inl ⟨by rfl, ?_⟩) ?_ ?_
  rotate_left
  · intro w'
    go_simp
    with_reducible rfl
  rotate_left
  · simp only [Act.put, List.setIfInBounds_toArray, List.set_cons_zero, List.set_cons_succ, i64_w, i32_w]
    rfl
  refine pure_ (i := 18) (N := some 25) (v := ?_) (a' := ?_) #[true, true, true, true, true, true, true, true, true, true, true, true, true, true, true, true, true, true, true, false, false] rfl rfl (by kernel_rfl) (fun _ _ _ h => h) (Or.inl ⟨by rfl, ?_⟩) ?_ ?_
  rotate_left
  · intro w'
    go_simp
    with_reducible rfl
  rotate_left
  · simp only [Act.put, List.setIfInBounds_toArray, List.set_cons_zero, List.set_cons_succ, i64_w, i32_w]
    rfl
  refine pure_ (i := 19) (N := some 5) (v := ?_) (a' := ?_) #[true, true, true, true, true, true, true, true, true, true, true, true, true, true, true, true, true, true, true, true, false] rfl rfl (by kernel_rfl) (fun _ _ _ h => h) (Or.inl ⟨by rfl, ?_⟩) ?_ ?_
  rotate_left
  · intro w'
    go_simp
    with_reducible rfl
  rotate_left
  · simp only [Act.put, List.setIfInBounds_toArray, List.set_cons_zero, List.set_cons_succ, i64_w, i32_w]
    rfl
  refine pure_ (i := 20) (N := some 6) (v := ?_) (a' := ?_) #[true, true, true, true, true, true, true, true, true, true, true, true, true, true, true, true, true, true, true, true, true] rfl rfl (by kernel_rfl) (fun _ _ _ h => h) (Or.inl ⟨by rfl, ?_⟩) ?_ ?_
  rotate_left
  · intro w'
    go_simp
    with_reducible rfl
  rotate_left
  · simp only [Act.put, List.setIfInBounds_toArray, List.set_cons_zero, List.set_cons_succ, i64_w, i32_w]
    rfl
  refine done_ (by kernel_rfl) ?_
  clear hHeld
  have c1 := HB1.out.cell 1 _ rfl
  have f1 := HB1.out.free 1
  clear hw1
  have hw1 : IntKind.i64.wrap ((a : Int) + (n : Int)) = (a : Int) + (n : Int) := IntWalk.i64_in _ (by omega)
  go_wp2_with fail
  go_ret
  refine ⟨congrArg (fun z : List Int => Ending.returned (.int .u64 (numL z : Int))) HQE.out, 1 + m, ?_⟩
  rw [← hw0, World.drewN_drew]
  rfl
end Go.Proofs.Ytpihpabofgmahaa.U
