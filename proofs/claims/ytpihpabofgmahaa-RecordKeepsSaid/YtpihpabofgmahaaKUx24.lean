/- Ux24: what this claim uses. Laid by slim.py (ours). -/
import Derived.Test.YtpihpabofgmahaaKUx0
import Derived.Test.YtpihpabofgmahaaKUx7
import Derived.Test.YtpihpabofgmahaaKUx9
import Derived.Test.YtpihpabofgmahaaKUx11
import Derived.Test.YtpihpabofgmahaaKUx18
import Derived.Test.YtpihpabofgmahaaKUx22
import Derived.Test.YtpihpabofgmahaaKUx23
namespace Go.Proofs.Ytpihpabofgmahaa.U
open Go.RowKit Go.Proofs.YtpihpabofgmahaaW.PrintWords Go.Proofs.YtpihpabofgmahaaW.PrintLast Go.Proofs.YtpihpabofgmahaaW.PrintMore
attribute [local go_sem] max2_int min2_int max_two min_two max_three min_three max_four min_four
set_option linter.unusedVariables false
set_option linter.unusedSimpArgs false
theorem numL_one (c : Int) : numL [c] = c.toNat := by simp [numL]
theorem numL_append (l m : List Int) : numL (l ++ m) = numL l + 256 ^ l.length * numL m := by
  induction l with
  | nil => simp [numL]
  | cons c l ih =>
    simp only [List.cons_append, numL, ih, List.length_cons, Nat.pow_succ]
    rw [Nat.mul_add, ← Nat.mul_assoc, Nat.mul_comm 256 (256 ^ l.length)]
    omega
theorem nu_or' (k x y : Nat) (hx : x < 2 ^ k) (h : x + y * 2 ^ k < 18446744073709551616) : Go.bits .or .u64 (x : Int) ((y * 2 ^ k : Nat) : Int) = ((x + y * 2 ^ k : Nat) : Int) := by
  rw [← nu_or k x y hx h]
  show IntKind.u64.wrap _ = IntKind.u64.wrap _
  show IntKind.u64.wrap ((BitVec.ofInt 64 (x : Int) ||| BitVec.ofInt 64 ((y * 2 ^ k : Nat) : Int)).toNat : Int) = IntKind.u64.wrap ((BitVec.ofInt 64 ((y * 2 ^ k : Nat) : Int) ||| BitVec.ofInt 64 (x : Int)).toNat : Int)
  rw [BitVec.or_comm]
theorem refNu_l0 (l : List Int) (h : X.u8all l = true) (h8 : l.length ≤ 8) : ∀ (d i k : Nat), i + d = l.length → d < k →
    undercroftref01_Number.l0 k l (numL (l.take i) : Int) (i : Int) = some ((numL l : Int), true)
  | 0, i, k, hi, hk => by
    obtain ⟨k, rfl⟩ : ∃ m, k = m + 1 := ⟨k - 1, by omega⟩
    rw [undercroftref01_Number.l0, if_neg (by omega), List.take_of_length_le (by omega)]
  | d + 1, i, k, hi, hk => by
    obtain ⟨k, rfl⟩ : ∃ m, k = m + 1 := ⟨k - 1, by omega⟩
    have ih := refNu_l0 l h h8 d (i + 1) k (by omega) (by omega)
    have hc := X.u8all_at h i (by omega)
    rw [undercroftref01_Number.l0, if_pos (by omega), if_pos (by omega)]
    have hrd : rd l (i : Int) = l.getD i 0 := by unfold rd; rw [Int.toNat_natCast]
    have hw : wrap64 ((i : Int) + 1) = ((i + 1 : Nat) : Int) := by rw [nu_wrap64 (by omega) (by omega)]; omega
    have hw8 : wrap64 (8 * (i : Int)) = ((8 * i : Nat) : Int) := by rw [nu_wrap64 (by omega) (by omega)]; omega
    rw [hrd, hw, hw8, if_pos (by omega)]
    have hlt := numL_lt _ (X.u8all_take h i)
    rw [List.length_take, Nat.min_eq_left (by omega)] at hlt
    have hmulp : (2 : Nat) ^ (8 * i) = 256 ^ i := by rw [Nat.pow_mul]
    have hg : l.getD i 0 = l[i] := by rw [List.getD_eq_getElem?_getD, List.getElem?_eq_getElem (by omega)]; rfl
    have he : numL (l.take (i + 1)) = numL (l.take i) + (l.getD i 0).toNat * 2 ^ (8 * i) := by
      rw [List.take_succ_eq_append_getElem (by omega), numL_append, List.length_take, Nat.min_eq_left (by omega), hg, hmulp, numL_one, Nat.mul_comm]
    clear hg
    have hpos : (256 : Nat) ^ i ≤ 256 ^ 7 := Nat.pow_le_pow_right (by decide) (by omega)
    generalize l.getD i 0 = c at *
    obtain ⟨n, rfl⟩ := Int.eq_ofNat_of_zero_le hc.1
    rw [Int.toNat_natCast] at he
    have hn : n < 256 := by omega
    have hprod : n * 2 ^ (8 * i) ≤ 255 * 2 ^ (8 * i) := Nat.mul_le_mul_right _ (by omega)
    have e3 : shl .u64 (IntKind.u64.wrap (n : Int)) ((8 * i : Nat) : Int) = ((n * 2 ^ (8 * i) : Nat) : Int) := by
      have hn' : ((n : Nat) : Int) % 18446744073709551616 = (n : Int) := by omega
      have hc2 : ((n * 2 ^ (8 * i) : Nat) : Int) = (n : Int) * 2 ^ (8 * i) := by rw [Int.natCast_mul, Int.natCast_pow]; rfl
      unfold shl
      rw [Int.toNat_natCast, Nat.min_eq_left (by show 8 * i ≤ 64; omega), nu_wrap, nu_wrap, hn', ← hc2]
      rw [hmulp] at hprod ⊢
      generalize (256 : Nat) ^ i = q at *
      generalize n * q = nq at *
      omega
    have hor := nu_or' (8 * i) (numL (l.take i)) n (by rw [hmulp]; exact hlt) (by
      rw [hmulp] at hprod ⊢
      generalize (256 : Nat) ^ i = q at *
      generalize n * q = nq at *
      omega)
    rw [e3, hor, ← he]
    exact ih
theorem refNu_f (l : List Int) (h : X.u8all l = true) (h8 : l.length ≤ 8) (k : Nat) (hk : 8 < k) : undercroftref01_Number.f k l = some ((numL l : Int), true) := by
  unfold undercroftref01_Number.f
  rw [if_neg (by omega)]
  exact refNu_l0 l h h8 l.length 0 k (by omega) (by omega)
theorem refAt_f (l : List Int) (h : X.u8all l = true) (hm : l.length ≤ 140737488355328) (a n : Nat) (hn : n ≤ 4) (ha : a + n ≤ l.length) (k : Nat) (hk : 8 < k) : undercroftref01_At.f k l (a : Int) (n : Int) = some (numL (cutL l a n) : Int) := by
  unfold undercroftref01_At.f
  have hw : wrap64 ((a : Int) + (n : Int)) = ((a + n : Nat) : Int) := by rw [nu_wrap64 (by omega) (by omega)]; omega
  rw [hw, if_pos (by omega), if_pos (by omega), if_pos (by omega), Int.toNat_natCast, Int.toNat_natCast]
  have hcl := cutL_length ha
  have hlt := numL_lt _ (cutL_u8 h a n)
  have := refNu_f (cutL l a n) (cutL_u8 h a n) (by omega) k hk
  unfold cutL at this hcl hlt ⊢
  rw [this, Option.bind_some, nu_wrap64 (by omega) (by
    rw [hcl] at hlt
    have : 256 ^ n ≤ 256 ^ 4 := Nat.pow_le_pow_right (by decide) hn
    omega)]
def undercroftref03_Decode.f (k : Nat) (l0 : List Int) (a1 : Int) : Option (Int × List S43 × List Int × Int × Bool) :=
  if X.u8all l0 = true ∧ l0.length ≤ 140737488355328 ∧ 8 < k then
    if l0.length < 256 then some badT
    else if 58 < cntL l0 + rcntL l0 ∨ l0.length < (cntL l0 + 2) * 256 then some badT
    else (undercroftref03_Encode.f k a1 (decWs l0 (cntL l0)) (decRs l0 (cntL l0) (rcntL l0))).bind fun p => if p.2 = 0 then (if ((strOfNums p.1).toList == (strOfNums (l0.take ((cntL l0 + 2) * 256))).toList) = true then some (a1, decWs l0 (cntL l0), decRs l0 (cntL l0) (rcntL l0), ((cntL l0 + 2 : Nat) : Int), true) else some badT) else some badT
  else none
theorem undercroftref03_Decode.mono : ∀ a0 a1 k, LeO (undercroftref03_Decode.f k a0 a1) (undercroftref03_Decode.f (k + 1) a0 a1) := by
  intro a0 a1 k
  unfold undercroftref03_Decode.f
  by_cases h : X.u8all a0 = true ∧ a0.length ≤ 140737488355328 ∧ 8 < k
  · rw [if_pos h, if_pos (show X.u8all a0 = true ∧ a0.length ≤ 140737488355328 ∧ 8 < k + 1 from ⟨h.1, h.2.1, by omega⟩)]
    exact LeO.ite (LeO.refl _) (LeO.ite (LeO.refl _) (LeO.bind (undercroftref03_Encode.mono _ _ _ _) fun _ => LeO.refl _))
  · rw [if_neg h]
    exact LeO.none _
structure RefR (w W : World) (gt M : Nat) (tv : List Value) (v : Value) (ws : List S43) : Prop where
  res : X.Blk W w.heap.size #[.int .u64 0, .slice none 0 0, .slice none 0 0] 26
  bl : Below w.heap.size w W
  tb : X.Blk W gt tv.toArray 26
  ss : Kd.S k43 43 W w.heap.size (fun k => True ∧ k < M) v ws
  lo : w.heap.size < gt
  gl : gt < M
  sz : M ≤ W.heap.size
theorem RefR.step {w W W' : World} {gt M : Nat} {tv : List Value} {v : Value} {ws : List S43} (h : RefR w W gt M tv v ws) (hb : Below M W W') : RefR w W' gt M tv v ws :=
  have hl := h.lo
  have hg := h.gl
  ⟨h.res.below hb (by omega), h.bl.trans (hb.mono (by omega)), h.tb.below hb hg, Kd.S_step h.ss (fun k hk _ => hb.block k hk.2), hl, hg, Nat.le_trans h.sz hb.size⟩
theorem RefR.end_ {w W W' : World} {gt M : Nat} {tv : List Value} {v v1 : Value} {ws ws1 : List S43} (h : RefR w W gt M tv v ws) (hg : W.grownBy W' v.ownBlock) (hb : Below w.heap.size w W') (hs : Kd.S k43 43 W' w.heap.size (fun _ => True) v1 ws1) : X.Blk W' gt tv.toArray 26 ∧ X.Blk (W'.setCell ⟨gt, 1, none⟩ v1) w.heap.size #[.int .u64 0, .slice none 0 0, .slice none 0 0] 26 ∧ Below w.heap.size w (W'.setCell ⟨gt, 1, none⟩ v1) ∧ X.Blk (W'.setCell ⟨gt, 1, none⟩ v1) gt (tv.toArray.setIfInBounds 1 v1) 26 ∧ Kd.S k43 43 (W'.setCell ⟨gt, 1, none⟩ v1) w.heap.size (fun _ => True) v1 ws1 := by
  have hl := h.lo
  have t1 : X.Blk W' gt tv.toArray 26 := (hg.block gt h.tb.lt (Kd.S_ne h.ss h.tb (by decide))).trans h.tb
  have r1 : X.Blk W' w.heap.size #[.int .u64 0, .slice none 0 0, .slice none 0 0] 26 := (hg.block _ h.res.lt (Kd.S_ne h.ss h.res (by decide))).trans h.res
  exact ⟨t1, blkAway r1 (by omega) 1 _, hb.setCell (p := ⟨gt, 1, none⟩) (by show w.heap.size ≤ gt; omega) _, t1.set 1 v1, Kd.S_set hs t1 (by decide) 1 _⟩
structure RefQ (w W : World) (gt : Nat) (tv : List Value) (sv : Value) (ws : List S43) (u : Value) (rs : List Int) : Prop where
  res : X.Blk W w.heap.size #[.int .u64 0, .slice none 0 0, .slice none 0 0] 26
  bl : Below w.heap.size w W
  tb : X.Blk W gt tv.toArray 26
  ss : Kd.S k43 43 W w.heap.size (fun _ => True) sv ws
  rr : Kd.R (Kd.int .i64) 3 W w.heap.size (fun _ => True) u rs
  lo : w.heap.size < gt
theorem RefQ.step {w W W' : World} {gt : Nat} {tv : List Value} {sv : Value} {ws : List S43} {u : Value} {rs : List Int} (h : RefQ w W gt tv sv ws u rs) (hb : Below W.heap.size W W') : RefQ w W' gt tv sv ws u rs :=
  ⟨h.res.below hb h.res.lt, h.bl.trans (hb.mono h.bl.size), h.tb.below hb h.tb.lt, Kd.S_below h.ss hb, Kd.R_below h.rr hb, h.lo⟩
theorem RefQ.end_ {w W W' : World} {gt : Nat} {tv : List Value} {sv : Value} {ws : List S43} {u u1 : Value} {rs rs1 : List Int} (h : RefQ w W gt tv sv ws u rs) (hg : W.grownBy W' u.ownBlock) (hb : Below w.heap.size w W') (hr : Kd.R (Kd.int .i64) 3 W' w.heap.size (fun _ => True) u1 rs1) : X.Blk W' gt tv.toArray 26 ∧ RefQ w (W'.setCell ⟨gt, 2, none⟩ u1) gt (tv.toArray.setIfInBounds 2 u1).toList sv ws u1 rs1 := by
  have hl := h.lo
  have t1 : X.Blk W' gt tv.toArray 26 := (hg.block gt h.tb.lt (Kd.R_ne h.rr h.tb (by decide))).trans h.tb
  have r1 : X.Blk W' w.heap.size #[.int .u64 0, .slice none 0 0, .slice none 0 0] 26 := (hg.block _ h.res.lt (Kd.R_ne h.rr h.res (by decide))).trans h.res
  exact ⟨t1, ⟨blkAway r1 (by omega) 2 _, hb.setCell (p := ⟨gt, 2, none⟩) (by show w.heap.size ≤ gt; omega) _, t1.set 2 u1, Kd.S_set (Kd.S_over' h.ss (Kd.R_typed h.rr) (by decide) hg) t1 (by decide) 2 _, Kd.R_set hr t1 (by decide) 2 _, hl⟩⟩
set_option maxHeartbeats 8000000 in
set_option maxRecDepth 100000 in
theorem undercroftref03_Decode.calls (k : Nat) (A0 : Option Addr) (c0 : Nat) (l0 : List Int) (a1 : Int) (r1 : Int) (r2 : List S43) (r3 : List Int) (r4 : Int) (r5 : Bool) (w : World) (hr0 : Kd.C (Kd.int .u8) w A0 l0.length l0) (hc0 : l0.length ≤ c0) (h : undercroftref03_Decode.f k l0 a1 = some (r1, r2, r3, r4, r5)) :
    Calls Try.prog 17 #[.slice A0 l0.length c0, .int .u64 a1] w fun e w' => ∃ v1_ v2_ : Value, e = .returned (.tuple #[.agg #[.int .u64 r1, v1_, v2_], .int .i64 r4, .bool r5]) ∧ Kd.S k43 43 w' w.heap.size (fun _ => True) v1_ r2 ∧ Kd.R (Kd.int .i64) 3 w' w.heap.size (fun _ => True) v2_ r3 ∧ Below w.heap.size w w' := by
  unfold undercroftref03_Decode.f at h
  by_cases hcnd : X.u8all l0 = true ∧ l0.length ≤ 140737488355328 ∧ 8 < k
  rotate_left
  · rw [if_neg hcnd] at h
    cases h
  rw [if_pos hcnd] at h
  obtain ⟨hu, hmx, hk8⟩ := hcnd
  have HU := Aside0.mk hu
  have HC := Aside0.mk hr0
  have HCC := Aside0.mk hc0
  clear hu hr0
  have hu26 := Try.underlying26
  have hu43 := Try.underlying43
  by_cases h256 : l0.length < 256
  · rw [if_pos h256] at h
    obtain ⟨rfl, rfl, rfl, rfl, rfl⟩ : 0 = r1 ∧ [] = r2 ∧ [] = r3 ∧ 0 = r4 ∧ false = r5 := by simpa [badT] using h
    have t1 : decide ((l0.length : Int) < 256) = true := decide_eq_true (by omega)
    have t2 : decide (l0.length < 256) = true := decide_eq_true (by omega)
    clear h h256
    go_enter Try.func17, Try.ntmps17
    go_wp2
    exact bodyPost_ret (results_ctt (P := Try.prog) (fn := Try.f17) rfl _ _ w.heap.size 26 #[.int .u64 0, .slice none 0 0, .slice none 0 0] (0, 0) _ rfl (X.Blk.new w _ _) Try.underlying26 rfl (by kernel_rfl)) rfl ⟨.slice none 0 0, .slice none 0 0, rfl, Kd.S_nil _ _ _ _ _, Kd.R_nil _ _ _ _ _, (Below.refl _ _).alloc (Nat.le_refl _) _⟩
  rw [if_neg h256] at h
  have HF := Aside0.mk h
  clear h
  have t1 : decide ((l0.length : Int) < 256) = false := decide_eq_false (by omega)
  have t2 : decide (l0.length < 256) = false := decide_eq_false (by omega)
  have hge : 256 ≤ l0.length := by omega
  clear h256
  have hn := cut2_lt HU.out (a := 16) (by omega)
  have hr := cut2_lt HU.out (a := 18) (by omega)
  have HA1 := Aside0.mk (refAt_f l0 HU.out hmx 16 2 (by decide) (by omega) k hk8)
  have HA2 := Aside0.mk (refAt_f l0 HU.out hmx 18 2 (by decide) (by omega) k hk8)
  have HAT := Aside0.mk (fun (i : Nat) (hi : 20 + 4 * i + 4 ≤ l0.length) => refAt_f l0 HU.out hmx (20 + 4 * i) 4 (by decide) hi k hk8)
  have hcn : cntL l0 = numL (cutL l0 16 2) := rfl
  have hrn : rcntL l0 = numL (cutL l0 18 2) := rfl
  rw [← hcn] at hn HA1
  rw [← hrn] at hr HA2
  obtain ⟨n, hnn⟩ : ∃ n, n = cntL l0 := ⟨_, rfl⟩
  obtain ⟨r, hrr⟩ : ∃ r, r = rcntL l0 := ⟨_, rfl⟩
  rw [← hnn] at hn HA1 HF
  rw [← hrr] at hr HA2 HF
  clear hcn hrn hnn hrr
  have hs1 : IntKind.i64.wrap ((n : Int) + 2) = (n : Int) + 2 := IntWalk.i64_in _ (by omega)
  have hs2 : IntKind.i64.wrap (((n : Int) + 2) * 256) = ((n : Int) + 2) * 256 := IntWalk.i64_in _ (by omega)
  have hs3 : IntKind.i64.wrap ((n : Int) + (r : Int)) = (n : Int) + (r : Int) := IntWalk.i64_in _ (by omega)
  go_enter Try.func17, Try.ntmps17
  go_wp2_with fail
  refine (undercroftref01_At.calls k A0 c0 l0 16 2 _ _ (Kd.C_alloc HC.out _) hc0 HA1.out).mono ?_
  rintro e w2 ⟨rfl, hd⟩
  have HR2 := Aside0.mk ((X.Blk.new w #[.int .u64 0, .slice none 0 0, .slice none 0 0] 26).below hd.below (X.Blk.new w _ _).lt)
  have HB2 := Aside0.mk (((Below.refl w.heap.size w).alloc (Nat.le_refl _) (.cells #[.int .u64 0, .slice none 0 0, .slice none 0 0] 26)).trans (hd.below.mono (by simp)))
  clear hd
  go_wp2_with fail
  refine (undercroftref01_At.calls k A0 c0 l0 18 2 _ _ (Kd.C_below HC.out HB2.out) hc0 HA2.out).mono ?_
  rintro e w3 ⟨rfl, hd⟩
  have HR3 := Aside0.mk (HR2.out.below hd.below HR2.out.lt)
  have HB3 := Aside0.mk (HB2.out.trans (hd.below.mono HB2.out.size))
  clear hd HR2 HB2 HA1 HA2
  by_cases hg1 : 58 < n + r
  · rw [if_pos (Or.inl hg1)] at HF
    obtain ⟨rfl, rfl, rfl, rfl, rfl⟩ : 0 = r1 ∧ [] = r2 ∧ [] = r3 ∧ 0 = r4 ∧ false = r5 := by simpa [badT] using HF.out
    have q1 : decide (58 < (n : Int) + (r : Int)) = true := decide_eq_true (by omega)
    have hr0 := HR3.out.cell 0 _ rfl
    have hr1 := HR3.out.cell 1 _ rfl
    have hr2 := HR3.out.cell 2 _ rfl
    have hf0 := HR3.out.free 0
    have hf1 := HR3.out.free 1
    have hf2 := HR3.out.free 2
    clear HF hg1 HAT
    go_wp2
    exact bodyPost_ret (results_ctt (P := Try.prog) (fn := Try.f17) rfl _ _ w.heap.size 26 #[.int .u64 0, .slice none 0 0, .slice none 0 0] (0, 0) _ rfl (blk3 HR3.out _ _ _) Try.underlying26 rfl (by kernel_rfl)) rfl ⟨.slice none 0 0, .slice none 0 0, rfl, Kd.S_nil _ _ _ _ _, Kd.R_nil _ _ _ _ _, below3 HB3.out _ _ _⟩
  have q1 : decide (58 < (n : Int) + (r : Int)) = false := decide_eq_false (by omega)
  by_cases hg2 : l0.length < (n + 2) * 256
  · rw [if_pos (Or.inr hg2)] at HF
    obtain ⟨rfl, rfl, rfl, rfl, rfl⟩ : 0 = r1 ∧ [] = r2 ∧ [] = r3 ∧ 0 = r4 ∧ false = r5 := by simpa [badT] using HF.out
    have q2 : decide ((l0.length : Int) < ((n : Int) + 2) * 256) = true := decide_eq_true (by omega)
    have hr0 := HR3.out.cell 0 _ rfl
    have hr1 := HR3.out.cell 1 _ rfl
    have hr2 := HR3.out.cell 2 _ rfl
    have hf0 := HR3.out.free 0
    have hf1 := HR3.out.free 1
    have hf2 := HR3.out.free 2
    clear HF hg1 hg2 HAT
    go_wp2
    exact bodyPost_ret (results_ctt (P := Try.prog) (fn := Try.f17) rfl _ _ w.heap.size 26 #[.int .u64 0, .slice none 0 0, .slice none 0 0] (0, 0) _ rfl (blk3 HR3.out _ _ _) Try.underlying26 rfl (by kernel_rfl)) rfl ⟨.slice none 0 0, .slice none 0 0, rfl, Kd.S_nil _ _ _ _ _, Kd.R_nil _ _ _ _ _, below3 HB3.out _ _ _⟩
  rw [if_neg (by omega)] at HF
  have q2 : decide ((l0.length : Int) < ((n : Int) + 2) * 256) = false := decide_eq_false (by omega)
  obtain ⟨gt, hgt⟩ : ∃ gt, gt = w3.heap.size := ⟨_, rfl⟩
  have HG : Aside0 (w.heap.size < gt) := ⟨by rw [hgt]; exact HR3.out.lt⟩
  have HT3 : Aside0 (X.Blk (w3.alloc (.cells #[.int .u64 a1, .slice none 0 0, .slice none 0 0] 26)) gt #[.int .u64 a1, .slice none 0 0, .slice none 0 0] 26) := ⟨by rw [hgt]; exact X.Blk.new w3 _ _⟩
  have HR4 := Aside0.mk (HR3.out.below ((Below.refl w3.heap.size w3).alloc (Nat.le_refl _) (.cells #[.int .u64 a1, .slice none 0 0, .slice none 0 0] 26)) HR3.out.lt)
  have HB4 := Aside0.mk (HB3.out.trans (((Below.refl w3.heap.size w3).alloc (Nat.le_refl _) (.cells #[.int .u64 a1, .slice none 0 0, .slice none 0 0] 26)).mono HB3.out.size))
  have HN : Aside0 ((n + 2) * 256 ≤ l0.length) := ⟨by omega⟩
  have HN58 : Aside0 (n + r ≤ 58) := ⟨by omega⟩
  clear hg1 hg2
  go_wp2_with fail
  rw [← hgt]
  generalize w3.alloc (.cells #[.int .u64 a1, .slice none 0 0, .slice none 0 0] 26) = w4 at *
  clear HR3 HB3 hgt
  go_loopg [11] n (fun kq v11 w' => ∃ (i : Nat) (v : Value), v11 = .int .i64 (i : Int) ∧ Aside0 (kq + i = n) ∧ Aside0 (X.Blk w' w.heap.size #[.int .u64 0, .slice none 0 0, .slice none 0 0] 26) ∧ Aside0 (Below w.heap.size w w') ∧ Aside0 (X.Blk w' gt #[.int .u64 a1, v, .slice none 0 0] 26) ∧ Aside0 (Kd.S k43 43 w' w.heap.size (fun _ => True) v (decWs l0 i)))
  case atStart => exact ⟨0, _, rfl, ⟨by omega⟩, HR4, HB4, HT3, ⟨Kd.S_nil _ _ _ _ _⟩⟩
  case round =>
    clear HT3 HR4 HB4
    obtain ⟨i, v, rfl, HK, HI, HB, HT, HS⟩ := hrel
    by_cases hlt : i < n
    · have q0 : decide ((i : Int) < (n : Int)) = true := decide_eq_true (by omega)
      have q00 : decide (i < n) = true := decide_eq_true hlt
      have h58 := HN58.out
      have h256 := HN.out
      obtain ⟨M, hM⟩ : ∃ M, M = wr.heap.size := ⟨_, rfl⟩
      have HR : Aside0 (RefR w wr gt M [.int .u64 a1, v, .slice none 0 0] v (decWs l0 i)) := ⟨⟨HI.out, HB.out, HT.out, by rw [hM]; exact Kd.S_old HS.out (Below.refl _ _), HG.out, by rw [hM]; exact HT.out.lt, by omega⟩⟩
      have HVL : Aside0 (∀ k, v.ownBlock = some k → k < M) := ⟨by rw [hM]; exact Kd.S_lt HS.out⟩
      clear HI HB HT HS hM
      obtain ⟨A', hcut, hcutC, hcl⟩ := cutL_run A0 c0 l0 (256 * (i + 1)) 256 HCC.out (by omega)
      have HQC := Aside0.mk hcutC
      have hql : (cutL l0 (256 * (i + 1)) 256).length = 256 := cutL_length (by omega)
      have HDW : Aside0 (decW l0 i = if 2147483648 ≤ wordL l0 i then ⟨(wordL l0 i : Int) - 2147483648, markL ++ (cutL l0 (256 * (i + 1)) 256).drop 4⟩ else ⟨(wordL l0 i : Int), cutL l0 (256 * (i + 1)) 256⟩) := ⟨rfl⟩
      have hwl := wordL_lt HU.out (i := i) (by omega)
      have hat : undercroftref01_At.f k l0 ((20 + 4 * i : Nat) : Int) ((4 : Nat) : Int) = some (wordL l0 i : Int) := HAT.out i (by omega)
      obtain ⟨q, hq⟩ : ∃ q, q = cutL l0 (256 * (i + 1)) 256 := ⟨_, rfl⟩
      obtain ⟨wd, hwd⟩ : ∃ wd, wd = wordL l0 i := ⟨_, rfl⟩
      rw [← hq] at HQC hql HDW
      rw [← hwd] at HDW hwl hat
      have HQL := Aside0.mk hql
      have e1 : ((256 * (i + 1) : Nat) : Int) = ((i : Int) + 1) * 256 := by omega
      have e2 : ((i : Int) + 1) * 256 + ((256 : Nat) : Int) = ((i : Int) + 2) * 256 := by omega
      have e3 : ((20 + 4 * i : Nat) : Int) = 20 + 4 * (i : Int) := by omega
      have e4 : ((4 : Nat) : Int) = 4 := rfl
      rw [e1, e2] at hcut
      rw [e3, e4] at hat
      have HA := Aside0.mk hat
      clear e1 e2 e3 e4 hcutC hql hq hwd hat
      have hw1 : IntKind.i64.wrap ((i : Int) + 1) = (i : Int) + 1 := IntWalk.i64_in _ (by omega)
      have hw2 : IntKind.i64.wrap (((i : Int) + 1) * 256) = ((i : Int) + 1) * 256 := IntWalk.i64_in _ (by omega)
      have hw3 : IntKind.i64.wrap ((i : Int) + 2) = (i : Int) + 2 := IntWalk.i64_in _ (by omega)
      have hw4 : IntKind.i64.wrap (((i : Int) + 2) * 256) = ((i : Int) + 2) * 256 := IntWalk.i64_in _ (by omega)
      have hw6 : IntKind.i64.wrap (4 * (i : Int)) = 4 * (i : Int) := IntWalk.i64_in _ (by omega)
      have hw7 : IntKind.i64.wrap (20 + 4 * (i : Int)) = 20 + 4 * (i : Int) := IntWalk.i64_in _ (by omega)
      go_wp2_with fail
      refine (undercroftref01_At.calls k A0 c0 l0 (20 + 4 * (i : Int)) 4 _ _ (Kd.C_below HC.out HR.out.bl) hc0 HA.out).mono ?_
      rintro e w5 ⟨rfl, hd⟩
      have HR1 := Aside0.mk (HR.out.step (hd.below.mono HR.out.sz))
      clear HR hd HA hw6 hw7
      by_cases h31 : 2147483648 ≤ wd
      · have HDW' := HDW.out
        rw [if_pos h31] at HDW'
        have HD := Aside0.mk HDW'
        have hw5 : IntKind.i64.wrap ((wd : Int) - 2147483648) = (wd : Int) - 2147483648 := IntWalk.i64_in _ (by omega)
        have q31 : decide (2147483648 ≤ (wd : Int)) = true := decide_eq_true (by omega)
        have q32 : decide (2147483648 ≤ wd) = true := decide_eq_true h31
        clear HDW HDW' h31 hwl
        go_wp2_with (first | ((with_reducible refine gate_dst (N := 51) rfl ?_); refine Kd.R_lit (Kd.int .u8) (w0 := w5) M 5 ?hg (N := 51) ?hd (xs := ([] : List Int)) (inner := []) (ok := fun _ => True) (okp := fun _ => True) ?hr ?hp (fun _ hk => hk) trivial (Below.refl _ _) HR1.out.sz (by simp) ?_; (case hd => rfl); (case hg => rfl); (case hr => first | (go_simp; done) | (go_simp; rfl)); (case hp => exact (Reps.none _ _)); intro v1 w6 ho1 hb1 hg_ hnew_; have HO1 := Aside0.mk ho1; have HB1 := Aside0.mk hb1; clear hg_ hnew_ ho1 hb1) | ((with_reducible refine gate_builtin (b := .append) (xs := #[.tmp 51, .tmp 59]) rfl ?_); at_builtin; refine Kd.R_append_row (Value.int .u8) (0 : Int) (w0 := w5) M rfl (.tmp 51) (.tmp 59) 29 5 (.int .u8 0) 1 rfl Try.underlying29 info5 rfl (by decide) v1 [] q A' 256 (c0 - 256 * (i + 1)) (fun _ => True) rfl rfl (fun _ _ => trivial) HO1.out (HQC.out _ (Kd.C_below HC.out (HR1.out.bl.trans (HB1.out.mono (by have := HR1.out.lo; have := HR1.out.gl; omega))))) HB1.out (Nat.le_trans HR1.out.sz HB1.out.size) (by simp) ?_; intro v2 w7 ho2 hb2 hg2 hat2; rw [List.nil_append] at ho2; have HQz := Aside0.mk ho2; have HRz := Aside0.mk (HR1.out.step hb2); have c2_ := HRz.out.tb.cell 1 v rfl; obtain ⟨gc, cc, e_, hgc, hgl, hcs⟩ := Kd.R_form ho2 (by rw [HQL.out]; decide); rw [HQL.out] at e_; subst e_; clear hgc hgl hcs ho2 hb2 hg2 hat2 HB1 HO1 HR1) | ((refine X.copyS_at (P := Try.prog) (w0 := w7) M rfl _ _ 29 9 5 rfl Try.underlying29 (by obtain ⟨i, hi, _, hs, _⟩ := info_parts info5; rw [hi]; exact congrArg some hs) gc 256 cc 0 256 cc { data := #[85, 76, 79, 71] } q (fun _ => True) rfl rfl HQz.out (by decide) (by decide) (Below.refl M w7) HRz.out.sz ?_); intro w8 hr8 hb8 hg8; rw [lay_mark HQL.out] at hr8; have HQy := Aside0.mk hr8; have HRy := Aside0.mk (HRz.out.step hb8); clear hr8 hb8 hg8 HQz HRz c2_; have HQz := HQy; have HRz := HRy; clear HQy HRy; have c2_ := HRz.out.tb.cell 1 v rfl) | ((with_reducible refine gate_builtin (b := .append) (xs := #[.tmp 68, .tmp 72]) rfl ?_); at_builtin; refine Kd.S_append k43 (w0 := w) w.heap.size rfl (.tmp 68) (.tmp 72) 23 43 (.agg #[(.int .i64 0), (.slice none 0 0)]) 32 rfl Try.underlying23 info43 rfl (by decide) (by omega) v (decWs l0 i) (⟨(wd : Int) - 2147483648, markL ++ q.drop 4⟩ : S43) [.int .i64 ((wd : Int) - 2147483648), .slice (some ⟨gc, 0, none⟩) 256 cc] (fun _ => True) (fun k => M ≤ k) rfl (by first | (go_simp; done) | (go_simp; rfl)) (k43_mkM _ _ _ (⟨(wd : Int) - 2147483648, markL ++ q.drop 4⟩ : S43) (Kd.R_lower (Kd.R_mono (Kd.R_bound HQz.out) (fun k hk => hk.2.1)) (by have := HRz.out.lo; have := HRz.out.gl; omega))) (fun k hk => ⟨trivial, fun e => by have := HVL.out k e.symm; omega⟩) (fun _ _ => trivial) (Kd.S_mono HRz.out.ss (fun k hk => ⟨trivial, by have := hk.2; omega⟩)) HRz.out.bl HRz.out.bl.size (by rw [decWs_length]; have := HN58.out; omega) ?_; intro v3 w9 ho_ hb_ hg_ hat_; rw [← HD.out, ← decWs_succ] at ho_; have HE := Aside0.mk (HRz.out.end_ hg_ hb_ ho_); obtain ⟨Av, cv, ev_⟩ := Kd.R_slice (Kd.S_R ho_); subst ev_; have f1_ := HE.out.1.free 1; have d1_ := HE.out.1.cell 1 v rfl; clear ho_ hb_ hg_ hat_ HRz HQz c2_))
        cases gk with
        | zero => exact absurd HK.out (by omega)
        | succ k1 =>
          go_roundg k1
          case measure => omega
          case rel => exact ⟨i + 1, _, by go_num, ⟨by have := HK.out; omega⟩, ⟨HE.out.2.1⟩, ⟨HE.out.2.2.1⟩, ⟨HE.out.2.2.2.1⟩, ⟨HE.out.2.2.2.2⟩⟩
      · have HDW' := HDW.out
        rw [if_neg h31] at HDW'
        have HD := Aside0.mk HDW'
        have q31 : decide (2147483648 ≤ (wd : Int)) = false := decide_eq_false (by omega)
        have q32 : decide (2147483648 ≤ wd) = false := decide_eq_false h31
        clear HDW HDW' h31 hwl
        go_wp2_with (first | ((with_reducible refine gate_dst (N := 51) rfl ?_); refine Kd.R_lit (Kd.int .u8) (w0 := w5) M 5 ?hg (N := 51) ?hd (xs := ([] : List Int)) (inner := []) (ok := fun _ => True) (okp := fun _ => True) ?hr ?hp (fun _ hk => hk) trivial (Below.refl _ _) HR1.out.sz (by simp) ?_; (case hd => rfl); (case hg => rfl); (case hr => first | (go_simp; done) | (go_simp; rfl)); (case hp => exact (Reps.none _ _)); intro v1 w6 ho1 hb1 hg_ hnew_; have HO1 := Aside0.mk ho1; have HB1 := Aside0.mk hb1; clear hg_ hnew_ ho1 hb1) | ((with_reducible refine gate_builtin (b := .append) (xs := #[.tmp 51, .tmp 59]) rfl ?_); at_builtin; refine Kd.R_append_row (Value.int .u8) (0 : Int) (w0 := w5) M rfl (.tmp 51) (.tmp 59) 29 5 (.int .u8 0) 1 rfl Try.underlying29 info5 rfl (by decide) v1 [] q A' 256 (c0 - 256 * (i + 1)) (fun _ => True) rfl rfl (fun _ _ => trivial) HO1.out (HQC.out _ (Kd.C_below HC.out (HR1.out.bl.trans (HB1.out.mono (by have := HR1.out.lo; have := HR1.out.gl; omega))))) HB1.out (Nat.le_trans HR1.out.sz HB1.out.size) (by simp) ?_; intro v2 w7 ho2 hb2 hg2 hat2; rw [List.nil_append] at ho2; have HQz := Aside0.mk ho2; have HRz := Aside0.mk (HR1.out.step hb2); have c2_ := HRz.out.tb.cell 1 v rfl; obtain ⟨gc, cc, e_, hgc, hgl, hcs⟩ := Kd.R_form ho2 (by rw [HQL.out]; decide); rw [HQL.out] at e_; subst e_; clear hgc hgl hcs ho2 hb2 hg2 hat2 HB1 HO1 HR1) | ((with_reducible refine gate_builtin (b := .append) (xs := #[.tmp 68, .tmp 72]) rfl ?_); at_builtin; refine Kd.S_append k43 (w0 := w) w.heap.size rfl (.tmp 68) (.tmp 72) 23 43 (.agg #[(.int .i64 0), (.slice none 0 0)]) 32 rfl Try.underlying23 info43 rfl (by decide) (by omega) v (decWs l0 i) (⟨(wd : Int), q⟩ : S43) [.int .i64 ((wd : Int)), .slice (some ⟨gc, 0, none⟩) 256 cc] (fun _ => True) (fun k => M ≤ k) rfl (by first | (go_simp; done) | (go_simp; rfl)) (k43_mkM _ _ _ (⟨(wd : Int), q⟩ : S43) (Kd.R_lower (Kd.R_mono (Kd.R_bound HQz.out) (fun k hk => hk.2.1)) (by have := HRz.out.lo; have := HRz.out.gl; omega))) (fun k hk => ⟨trivial, fun e => by have := HVL.out k e.symm; omega⟩) (fun _ _ => trivial) (Kd.S_mono HRz.out.ss (fun k hk => ⟨trivial, by have := hk.2; omega⟩)) HRz.out.bl HRz.out.bl.size (by rw [decWs_length]; have := HN58.out; omega) ?_; intro v3 w9 ho_ hb_ hg_ hat_; rw [← HD.out, ← decWs_succ] at ho_; have HE := Aside0.mk (HRz.out.end_ hg_ hb_ ho_); obtain ⟨Av, cv, ev_⟩ := Kd.R_slice (Kd.S_R ho_); subst ev_; have f1_ := HE.out.1.free 1; have d1_ := HE.out.1.cell 1 v rfl; clear ho_ hb_ hg_ hat_ HRz HQz c2_))
        cases gk with
        | zero => exact absurd HK.out (by omega)
        | succ k1 =>
          go_roundg k1
          case measure => omega
          case rel => exact ⟨i + 1, _, by go_num, ⟨by have := HK.out; omega⟩, ⟨HE.out.2.1⟩, ⟨HE.out.2.2.1⟩, ⟨HE.out.2.2.2.1⟩, ⟨HE.out.2.2.2.2⟩⟩
    · have q0 : decide ((i : Int) < (n : Int)) = false := decide_eq_false (by have := HK.out; omega)
      have q00 : decide (i < n) = false := decide_eq_false hlt
      obtain rfl : i = n := by have := HK.out; omega
      clear HK hlt
      obtain ⟨Av, cv, ev_⟩ := Kd.R_slice (Kd.S_R HS.out)
      subst ev_
      go_wp2_with fail
      go_loopg [14] r (fun kq v14 w' => ∃ (j : Nat) (u : Value), v14 = .int .i64 (j : Int) ∧ Aside0 (kq + j = r) ∧ Aside0 (RefQ w w' gt [.int .u64 a1, .slice Av (decWs l0 i).length cv, u] (.slice Av (decWs l0 i).length cv) (decWs l0 i) u (decRs l0 i j)))
      case atStart => exact ⟨0, _, rfl, ⟨by omega⟩, ⟨⟨HI.out, HB.out, HT.out, HS.out, Kd.R_nil _ _ _ _ _, HG.out⟩⟩⟩
      case round =>
        clear HI HT HS HB
        obtain ⟨j, u, rfl, HK, HQ⟩ := hrel
        by_cases hlt : j < r
        · have q0 : decide ((j : Int) < (r : Int)) = true := decide_eq_true (by omega)
          have q00 : decide (j < r) = true := decide_eq_true hlt
          have h58 := HN58.out
          have h256 := HN.out
          have hat : undercroftref01_At.f k l0 ((20 + 4 * (i + j) : Nat) : Int) ((4 : Nat) : Int) = some (wordL l0 (i + j) : Int) := HAT.out (i + j) (by omega)
          have HRS := Aside0.mk (decRs_succ l0 i j)
          have HRL := Aside0.mk (decRs_length l0 i j)
          obtain ⟨wd, hwd⟩ : ∃ wd, wd = wordL l0 (i + j) := ⟨_, rfl⟩
          rw [← hwd] at hat HRS
          rw [show ((20 + 4 * (i + j) : Nat) : Int) = 20 + 4 * ((i : Int) + (j : Int)) from by omega, show ((4 : Nat) : Int) = 4 from rfl] at hat
          have HA := Aside0.mk hat
          have hw5 : IntKind.i64.wrap ((i : Int) + (j : Int)) = (i : Int) + (j : Int) := IntWalk.i64_in _ (by omega)
          have hw6 : IntKind.i64.wrap (4 * ((i : Int) + (j : Int))) = 4 * ((i : Int) + (j : Int)) := IntWalk.i64_in _ (by omega)
          have hw7 : IntKind.i64.wrap (20 + 4 * ((i : Int) + (j : Int))) = 20 + 4 * ((i : Int) + (j : Int)) := IntWalk.i64_in _ (by omega)
          clear hwd hat
          go_wp2_with fail
          have HQ1 := Aside0.mk (HQ.out.step (below_drew1 (Below.refl wr.heap.size wr)))
          refine start_ (n := 13) (S := (fun w' => w'.cell? ⟨gt, 2, none⟩ = some u)) (ds := [12]) #[false, false, false, false, false, false, false, false, false, false, false, false, false] (by kernel_rfl) rfl rfl (HQ1.out.tb.cell 2 u rfl) (fun hHeld => ?_)
          generalize wr.drew = w5 at *
          clear HQ
          refine pure_ (i := 0) (N := some 80) (v := ?_) (a' := ?_) #[true, false, false, false, false, false, false, false, false, false, false, false, false] rfl rfl (by kernel_rfl) (fun _ _ _ h => h) (Or.inl ⟨by rfl, ?_⟩) ?_ ?_
          rotate_left
          · intro w'
            go_simp
            with_reducible rfl
          rotate_left
          · simp only [Act.put, List.setIfInBounds_toArray, List.set_cons_zero, List.set_cons_succ, i64_w, i32_w]
            rfl
          refine take_ (i := 1) (N := some 81) (v := ?_) (a' := ?_) #[true, true, false, false, false, false, false, false, false, false, false, false, false] rfl rfl (by kernel_rfl) (fun _ _ _ h => h) (Or.inl ⟨by rfl, ?_⟩) hHeld ?_ ?_
          rotate_left
          · intro w' hs_
            go_simp
            with_reducible rfl
          rotate_left
          · simp only [Act.put, List.setIfInBounds_toArray, List.set_cons_zero, List.set_cons_succ, i64_w, i32_w]
            rfl
          refine pure_ (i := 2) (N := some 82) (v := ?_) (a' := ?_) #[true, true, true, false, false, false, false, false, false, false, false, false, false] rfl rfl (by kernel_rfl) (fun _ _ _ h => h) (Or.inl ⟨by rfl, ?_⟩) ?_ ?_
          rotate_left
          · intro w'
            go_simp
            with_reducible rfl
          rotate_left
          · simp only [Act.put, List.setIfInBounds_toArray, List.set_cons_zero, List.set_cons_succ, i64_w, i32_w]
            rfl
          refine pure_ (i := 3) (N := some 83) (v := ?_) (a' := ?_) #[true, true, true, true, false, false, false, false, false, false, false, false, false] rfl rfl (by kernel_rfl) (fun _ _ _ h => h) (Or.inl ⟨by rfl, ?_⟩) ?_ ?_
          rotate_left
          · intro w'
            go_simp
            with_reducible rfl
          rotate_left
          · simp only [Act.put, List.setIfInBounds_toArray, List.set_cons_zero, List.set_cons_succ, i64_w, i32_w]
            rfl
          refine pure_ (i := 4) (N := some 84) (v := ?_) (a' := ?_) #[true, true, true, true, true, false, false, false, false, false, false, false, false] rfl rfl (by kernel_rfl) (fun _ _ _ h => h) (Or.inl ⟨by rfl, ?_⟩) ?_ ?_
          rotate_left
          · intro w'
            go_simp
            with_reducible rfl
          rotate_left
          · simp only [Act.put, List.setIfInBounds_toArray, List.set_cons_zero, List.set_cons_succ, i64_w, i32_w]
            rfl
          refine pure_ (i := 5) (N := some 85) (v := ?_) (a' := ?_) #[true, true, true, true, true, true, false, false, false, false, false, false, false] rfl rfl (by kernel_rfl) (fun _ _ _ h => h) (Or.inl ⟨by rfl, ?_⟩) ?_ ?_
          rotate_left
          · intro w'
            go_simp
            with_reducible rfl
          rotate_left
          · simp only [Act.put, List.setIfInBounds_toArray, List.set_cons_zero, List.set_cons_succ, i64_w, i32_w]
            rfl
          refine pure_ (i := 6) (N := some 86) (v := ?_) (a' := ?_) #[true, true, true, true, true, true, true, false, false, false, false, false, false] rfl rfl (by kernel_rfl) (fun _ _ _ h => h) (Or.inl ⟨by rfl, ?_⟩) ?_ ?_
          rotate_left
          · intro w'
            go_simp
            with_reducible rfl
          rotate_left
          · simp only [Act.put, List.setIfInBounds_toArray, List.set_cons_zero, List.set_cons_succ, i64_w, i32_w]
            rfl
          refine pure_ (i := 7) (N := some 87) (v := ?_) (a' := ?_) #[true, true, true, true, true, true, true, true, false, false, false, false, false] rfl rfl (by kernel_rfl) (fun _ _ _ h => h) (Or.inl ⟨by rfl, ?_⟩) ?_ ?_
          rotate_left
          · intro w'
            go_simp
            with_reducible rfl
          rotate_left
          · simp only [Act.put, List.setIfInBounds_toArray, List.set_cons_zero, List.set_cons_succ, i64_w, i32_w]
            rfl
          refine one_ (i := 8) (N := some 88) #[true, true, true, true, true, true, true, true, true, false, false, false, false] rfl rfl (by kernel_rfl) (by decide) (fun K hK => ?_)
          refine goes_ Try.func33 (by kernel_rfl) rfl #[.slice A0 l0.length c0, .int .i64 (20 + 4 * ((i : Int) + (j : Int))), .int .i64 4] (by rfl) rfl rfl (by (try simp only [List.map_toArray, List.map_cons, List.map_nil]); first | done | rfl) ?_
          refine (undercroftref01_At.calls k A0 c0 l0 (20 + 4 * ((i : Int) + (j : Int))) 4 _ _ (Kd.C_below HC.out HQ1.out.bl) hc0 HA.out).mono ?_
          rintro e w6 ⟨rfl, hd⟩
          refine ⟨_, rfl, ?_⟩
          have HQ2 := Aside0.mk (HQ1.out.step hd.below)
          clear HQ1 hd
          refine hK.out _ _ (HQ2.out.tb.cell 2 u rfl) (fun hHeld => ?_)
          clear hK K
          refine norm_ (a' := ?_) ?_ ?_
          rotate_left
          · show Act.put _ (some 88) _ = _
            simp only [Act.put, List.setIfInBounds_toArray, List.set_cons_zero, List.set_cons_succ, i64_w, i32_w]
            rfl
          refine one_ (i := 9) (N := some 89) #[true, true, true, true, true, true, true, true, true, true, false, false, false] rfl rfl (by kernel_rfl) (by decide) (fun K hK => ?_)
          refine value_ (w1 := ?_) (v := ?_) (by rfl) rfl ?_ ?_
          rotate_left 2
          · go_simp
            constructor
            · rfl
            · rfl
          refine hK.out _ _ ((HQ2.out.step (below_alloc (Below.refl _ _) _)).tb.cell 2 u rfl) (fun hHeld => ?_)
          clear hK K
          refine norm_ (a' := ?_) ?_ ?_
          rotate_left
          · show Act.put _ (some 89) _ = _
            simp only [Act.put, List.setIfInBounds_toArray, List.set_cons_zero, List.set_cons_succ, i64_w, i32_w]
            rfl
          refine one_ (i := 10) (N := some 90) #[true, true, true, true, true, true, true, true, true, true, true, false, false] rfl rfl (by kernel_rfl) (by decide) (fun K hK => ?_)
          refine Kd.R_append_step (Kd.int .i64) (w0 := w) w.heap.size (by rfl) (.tmp 81) (.tmp 89) 24 3 (.int .i64 0) 8 rfl Try.underlying24 info3 rfl (by decide) (by omega) u (decRs l0 i j) (wd : Int) [.int .i64 (wd : Int)] (fun _ => True) (fun _ => False) rfl rfl (by first | exact rfl | exact ⟨_, rfl, rfl⟩) (fun _ h => h.elim) (fun _ _ => trivial) HQ2.out.rr HQ2.out.bl HQ2.out.bl.size (by rw [HRL.out]; omega) ?_
          intro v1 w9 ho_ hb_ hg_ hat_
          rw [← HRS.out] at ho_
          have HE := Aside0.mk (HQ2.out.end_ hg_ hb_ ho_)
          obtain ⟨Au, cu, eu_⟩ := Kd.R_slice ho_
          subst eu_
          clear ho_ hb_ hg_ hat_
          clear HQ2
          refine hK.out _ _ (HE.out.1.cell 2 u rfl) (fun hHeld => ?_)
          clear hK K
          refine norm_ (a' := ?_) ?_ ?_
          rotate_left
          · show Act.put _ (some 90) _ = _
            simp only [Act.put, List.setIfInBounds_toArray, List.set_cons_zero, List.set_cons_succ, i64_w, i32_w]
            rfl
          refine pure_ (i := 11) (N := some 91) (v := ?_) (a' := ?_) #[true, true, true, true, true, true, true, true, true, true, true, true, false] rfl rfl (by kernel_rfl) (fun _ _ _ h => h) (Or.inl ⟨by rfl, ?_⟩) ?_ ?_
          rotate_left
          · intro w'
            go_simp
            with_reducible rfl
          rotate_left
          · simp only [Act.put, List.setIfInBounds_toArray, List.set_cons_zero, List.set_cons_succ, i64_w, i32_w]
            rfl
          refine last_ (i := 12) (N := none) #[true, true, true, true, true, true, true, true, true, true, true, true, true] rfl rfl (by kernel_rfl) (by decide) (fun K hK => ?_)
          have c2_ := HE.out.1.cell 2 u rfl
          have f2_ := HE.out.1.free 2
          refine skip_ (w1 := ?_) (by rfl) rfl ?_ ?_
          rotate_left
          · go_simp
            rfl
          refine hK.out _ _ ?_
          clear hK K c2_ f2_ hHeld
          refine done_ (by kernel_rfl) ?_
          go_wp2
          cases gk with
          | zero => exact absurd HK.out (by omega)
          | succ k1 =>
            go_roundg k1
            case measure => omega
            case rel => exact ⟨j + 1, _, by go_num, ⟨by have := HK.out; omega⟩, ⟨HE.out.2⟩⟩
        · have q0 : decide ((j : Int) < (r : Int)) = false := decide_eq_false (by have := HK.out; omega)
          have q00 : decide (j < r) = false := decide_eq_false hlt
          obtain rfl : j = r := by have := HK.out; omega
          clear HK hlt
          obtain ⟨Au, cu, hcu, eu_, hCu⟩ : ∃ Au cu, (decRs l0 i j).length ≤ cu ∧ u = .slice Au (decRs l0 i j).length cu ∧ Kd.C (Kd.int .i64) wr Au (decRs l0 i j).length (decRs l0 i j) := by
            obtain ⟨A, c, h1, h2, h3⟩ := Kd.R_reads HQ.out.rr
            exact ⟨A, c, h2, h1, h3⟩
          subst eu_
          obtain ⟨-, hcv, hCv⟩ := Kd.S_reads' HQ.out.ss
          obtain ⟨p, hen, hf⟩ := Option.bind_eq_some_iff.1 HF.out
          obtain ⟨enc, st⟩ := p
          have HENA := Aside0.mk (undercroftref03_Encode.calls k a1 Av cv (decWs l0 i) Au cu (decRs l0 i j) enc st wr hCv hcv hCu hcu hen)
          have HFF := Aside0.mk hf
          clear hen hf HF hCu hCv hcu hcv
          have c0_ := HQ.out.tb.cell 0 _ rfl
          have c1_ := HQ.out.tb.cell 1 _ rfl
          have c2_ := HQ.out.tb.cell 2 _ rfl
          go_wp2_with fail
          refine HENA.out.mono ?_
          rintro e w5 ⟨v0, rfl, hR, hB⟩
          have HQ5 := Aside0.mk (HQ.out.step hB)
          obtain ⟨Ae, ce, ee_, hce, hCe⟩ := Kd.R_reads hR
          subst ee_
          have HCE := Aside0.mk hCe
          clear hR hB HENA HQ c0_ c1_ c2_ hCe
          by_cases hst : st = 0
          · subst hst
            have hf := HFF.out
            rw [if_pos (show ((enc, (0 : Int)) : List Int × Int).2 = 0 from rfl)] at hf
            have h256 := HN.out
            obtain ⟨i03, hi03, _, hsz3, _⟩ := info_parts info5
            obtain ⟨j0, hj0⟩ : ∃ j0 : Int, j0 = ((i : Int) + 2) * 256 := ⟨_, rfl⟩
            have h00 : 0 ≤ j0 := by omega
            have h01 : j0 ≤ (l0.length : Int) := by omega
            have e5 : j0.toNat = (i + 2) * 256 := by omega
            obtain ⟨hcut3, hA3, hC3⟩ := print_take_of (P := Try.prog) (Value.int .u8) 0 29 5 .i64 Try.underlying29 hi03 hsz3 A0 c0 l0 j0 h00 h01 HCC.out
            have e6 : (l0.take ((i + 2) * 256)).length = (i + 2) * 256 := by rw [List.length_take]; omega
            rw [e5] at hcut3 hA3 hC3
            rw [hj0] at hcut3
            clear h00 h01 hj0
            have HRT := Aside0.mk (Kd.C_of_reads (h1 := fun _ => rfl) (hA3 _ (Kd.reads_of_C (Kd.C_below HC.out HQ5.out.bl))))
            clear hA3 hC3 hi03 hsz3
            obtain ⟨q, hq⟩ : ∃ q, q = l0.take ((i + 2) * 256) := ⟨_, rfl⟩
            rw [← hq] at hf e6 hcut3 HRT
            have HFG := Aside0.mk hf
            rw [e6] at hcut3
            have HQLE := Aside0.mk e6
            have e7 : (((i + 2) * 256 : Nat) : Int) = ((i : Int) + 2) * 256 := by omega
            clear hq e5 e6 HFF hf e7
            go_wp2_with fail
            have HTW := Aside0.mk (HRT.out)
            refine start_ (n := 11) (S := (fun w' => Kd.C (Kd.int .u8) w' Ae enc.length enc ∧ Kd.C (Kd.int .u8) w' A0 q.length q)) (ds := []) #[false, false, false, false, false, false, false, false, false, false, false] (by kernel_rfl) rfl rfl ⟨Kd.C_drew HCE.out, Kd.C_drew HRT.out⟩ (fun hHeld => ?_)
            refine pure_ (i := 0) (N := some 97) (v := ?_) (a' := ?_) #[true, false, false, false, false, false, false, false, false, false, false] rfl rfl (by kernel_rfl) (fun _ _ _ h => h) (Or.inl ⟨by rfl, ?_⟩) ?_ ?_
            rotate_left
            · intro w'
              go_simp
              with_reducible rfl
            rotate_left
            · simp only [Act.put, List.setIfInBounds_toArray, List.set_cons_zero, List.set_cons_succ, i64_w, i32_w]
              rfl
            refine pure_ (i := 1) (N := some 98) (v := .bool false) (a' := ?_) #[true, true, false, false, false, false, false, false, false, false, false] rfl rfl (by kernel_rfl) (fun _ _ _ h => h) (Or.inl ⟨by rfl, ?_⟩) ?_ ?_
            · intro w'
              go_simp; first | done | rfl | simp
            rotate_left
            · simp only [Act.put, List.setIfInBounds_toArray, List.set_cons_zero, List.set_cons_succ, i64_w, i32_w]
              rfl
            refine pure_ (i := 2) (N := some 99) (v := ?_) (a' := ?_) #[true, true, true, false, false, false, false, false, false, false, false] rfl rfl (by kernel_rfl) (fun _ _ _ h => h) (Or.inl ⟨by rfl, ?_⟩) ?_ ?_
            rotate_left
            · intro w'
              go_simp
              with_reducible rfl
            rotate_left
            · simp only [Act.put, List.setIfInBounds_toArray, List.set_cons_zero, List.set_cons_succ, i64_w, i32_w]
              rfl
            refine pure_ (i := 3) (N := some 100) (v := ?_) (a' := ?_) #[true, true, true, true, false, false, false, false, false, false, false] rfl rfl (by kernel_rfl) (fun _ _ _ h => h) (Or.inl ⟨by rfl, ?_⟩) ?_ ?_
            rotate_left
            · intro w'
              go_simp
              with_reducible rfl
            rotate_left
            · simp only [Act.put, List.setIfInBounds_toArray, List.set_cons_zero, List.set_cons_succ, i64_w, i32_w]
              rfl
            refine take_ (i := 4) (N := some 101) (v := ?_) (a' := ?_) #[true, true, true, true, true, false, false, false, false, false, false] rfl rfl (by kernel_rfl) (fun _ _ _ h => h) (Or.inl ⟨by rfl, ?_⟩) hHeld ?_ ?_
            rotate_left
            · intro w' hs_
              have hst_ := Kd.C_string (P := Try.prog) (A := Ae) (c := ce) Try.underlying29 Try.underlying5 Try.underlying9 hs_.1
              go_simp
              with_reducible rfl
            rotate_left
            · simp only [Act.put, List.setIfInBounds_toArray, List.set_cons_zero, List.set_cons_succ, i64_w, i32_w]
              rfl
            refine pure_ (i := 5) (N := some 102) (v := ?_) (a' := ?_) #[true, true, true, true, true, true, false, false, false, false, false] rfl rfl (by kernel_rfl) (fun _ _ _ h => h) (Or.inl ⟨by rfl, ?_⟩) ?_ ?_
            rotate_left
            · intro w'
              go_simp
              with_reducible rfl
            rotate_left
            · simp only [Act.put, List.setIfInBounds_toArray, List.set_cons_zero, List.set_cons_succ, i64_w, i32_w]
              rfl
            refine pure_ (i := 6) (N := some 103) (v := ?_) (a' := ?_) #[true, true, true, true, true, true, true, false, false, false, false] rfl rfl (by kernel_rfl) (fun _ _ _ h => h) (Or.inl ⟨by rfl, ?_⟩) ?_ ?_
            rotate_left
            · intro w'
              go_simp
              with_reducible rfl
            rotate_left
            · simp only [Act.put, List.setIfInBounds_toArray, List.set_cons_zero, List.set_cons_succ, i64_w, i32_w]
              rfl
            refine pure_ (i := 7) (N := some 104) (v := ?_) (a' := ?_) #[true, true, true, true, true, true, true, true, false, false, false] rfl rfl (by kernel_rfl) (fun _ _ _ h => h) (Or.inl ⟨by rfl, ?_⟩) ?_ ?_
            rotate_left
            · intro w'
              go_simp
              with_reducible rfl
            rotate_left
            · simp only [Act.put, List.setIfInBounds_toArray, List.set_cons_zero, List.set_cons_succ, i64_w, i32_w]
              rfl
            refine take_ (i := 8) (N := some 105) (v := ?_) (a' := ?_) #[true, true, true, true, true, true, true, true, true, false, false] rfl rfl (by kernel_rfl) (fun _ _ _ h => h) (Or.inl ⟨by rfl, ?_⟩) hHeld ?_ ?_
            rotate_left
            · intro w' hs_
              have hst_ := Kd.C_string (P := Try.prog) (A := A0) (c := c0) Try.underlying29 Try.underlying5 Try.underlying9 hs_.2
              rw [HQLE.out] at hst_
              go_simp
              with_reducible rfl
            rotate_left
            · simp only [Act.put, List.setIfInBounds_toArray, List.set_cons_zero, List.set_cons_succ, i64_w, i32_w]
              rfl
            refine pure_ (i := 9) (N := some 106) (v := ?_) (a' := ?_) #[true, true, true, true, true, true, true, true, true, true, false] rfl rfl (by kernel_rfl) (fun _ _ _ h => h) (Or.inl ⟨by rfl, ?_⟩) ?_ ?_
            rotate_left
            · intro w'
              go_simp
              with_reducible rfl
            rotate_left
            · simp only [Act.put, List.setIfInBounds_toArray, List.set_cons_zero, List.set_cons_succ, i64_w, i32_w]
              rfl
            refine pure_ (i := 10) (N := some 107) (v := ?_) (a' := ?_) #[true, true, true, true, true, true, true, true, true, true, true] rfl rfl (by kernel_rfl) (fun _ _ _ h => h) (Or.inl ⟨by rfl, ?_⟩) ?_ ?_
            rotate_left
            · intro w'
              go_simp
              with_reducible rfl
            rotate_left
            · simp only [Act.put, List.setIfInBounds_toArray, List.set_cons_zero, List.set_cons_succ, i64_w, i32_w]
              rfl
            refine done_ (by kernel_rfl) ?_
            have HQ6 := Aside0.mk (HQ5.out.step (below_drew1 (Below.refl w5.heap.size w5)))
            generalize w5.drew = w6 at *
            clear HQ5 HCE hHeld
            have r0_ := HQ6.out.res.cell 0 _ rfl
            have r1_ := HQ6.out.res.cell 1 _ rfl
            have r2_ := HQ6.out.res.cell 2 _ rfl
            have g0_ := HQ6.out.res.free 0
            have g1_ := HQ6.out.res.free 1
            have g2_ := HQ6.out.res.free 2
            cases hbq : ((strOfNums enc).toList == (strOfNums q).toList) with
            | true =>
              have hg_ := HFG.out
              rw [if_pos hbq] at hg_
              obtain ⟨rfl, rfl, rfl, rfl, rfl⟩ : a1 = r1 ∧ decWs l0 i = r2 ∧ decRs l0 i j = r3 ∧ ((i + 2 : Nat) : Int) = r4 ∧ true = r5 := by simpa using hg_
              have c0_ := HQ6.out.tb.cell 0 _ rfl
              have c1_ := HQ6.out.tb.cell 1 _ rfl
              have c2_ := HQ6.out.tb.cell 2 _ rfl
              clear hg_ HFG
              go_wp2
              have e2 : (i : Int) + 2 = ((i + 2 : Nat) : Int) := by omega
              refine bodyPost_ret (results_ctt (P := Try.prog) (fn := Try.f17) rfl _ _ w.heap.size 26 #[.int .u64 a1, .slice Av (decWs l0 i).length cv, .slice Au (decRs l0 i j).length cu] (0, 0) _ rfl (blk3 HQ6.out.res _ _ _) Try.underlying26 rfl (by kernel_rfl)) rfl ⟨.slice Av (decWs l0 i).length cv, .slice Au (decRs l0 i j).length cu, by rw [← e2]; rfl, ss3 HQ6.out.ss HQ6.out.res _ _ _, rr3 HQ6.out.rr HQ6.out.res _ _ _, below3 HQ6.out.bl _ _ _⟩
            | false =>
              have hg_ := HFG.out
              rw [if_neg (by rw [hbq]; decide)] at hg_
              obtain ⟨rfl, rfl, rfl, rfl, rfl⟩ : 0 = r1 ∧ [] = r2 ∧ [] = r3 ∧ 0 = r4 ∧ false = r5 := by simpa [badT] using hg_
              clear hg_ HFG
              go_wp2
              exact bodyPost_ret (results_ctt (P := Try.prog) (fn := Try.f17) rfl _ _ w.heap.size 26 #[.int .u64 0, .slice none 0 0, .slice none 0 0] (0, 0) _ rfl (blk3 HQ6.out.res _ _ _) Try.underlying26 rfl (by kernel_rfl)) rfl ⟨.slice none 0 0, .slice none 0 0, rfl, Kd.S_nil _ _ _ _ _, Kd.R_nil _ _ _ _ _, below3 HQ6.out.bl _ _ _⟩
          · have hf := HFF.out
            rw [if_neg hst] at hf
            obtain ⟨rfl, rfl, rfl, rfl, rfl⟩ : 0 = r1 ∧ [] = r2 ∧ [] = r3 ∧ 0 = r4 ∧ false = r5 := by simpa [badT] using hf
            have s1 : decide (st = 0) = false := decide_eq_false hst
            clear HFF hf
            go_wp2_with fail
            refine start_ (n := 11) (S := (fun _ => True)) (ds := []) #[false, false, false, false, false, false, false, false, false, false, false] (by kernel_rfl) rfl rfl trivial (fun hHeld => ?_)
            refine pure_ (i := 0) (N := some 97) (v := ?_) (a' := ?_) #[true, false, false, false, false, false, false, false, false, false, false] rfl rfl (by kernel_rfl) (fun _ _ _ h => h) (Or.inl ⟨by rfl, ?_⟩) ?_ ?_
            rotate_left
            · intro w'
              go_simp
              with_reducible rfl
            rotate_left
            · simp only [Act.put, List.setIfInBounds_toArray, List.set_cons_zero, List.set_cons_succ, i64_w, i32_w]
              rfl
            refine pure_ (i := 1) (N := some 98) (v := .bool true) (a' := ?_) #[true, true, false, false, false, false, false, false, false, false, false] rfl rfl (by kernel_rfl) (fun _ _ _ h => h) (Or.inl ⟨by rfl, ?_⟩) ?_ ?_
            · intro w'
              go_simp; first | done | rfl | simp [hst]
            rotate_left
            · simp only [Act.put, List.setIfInBounds_toArray, List.set_cons_zero, List.set_cons_succ, i64_w, i32_w]
              rfl
            refine pure_ (i := 2) (N := some 99) (v := ?_) (a' := ?_) #[true, true, true, false, false, false, false, false, false, false, false] rfl rfl (by kernel_rfl) (fun _ _ _ h => h) (Or.inl ⟨by rfl, ?_⟩) ?_ ?_
            rotate_left
            · intro w'
              go_simp
              with_reducible rfl
            rotate_left
            · simp only [Act.put, List.setIfInBounds_toArray, List.set_cons_zero, List.set_cons_succ, i64_w, i32_w]
              rfl
            refine pure_ (i := 3) (N := some 100) (v := undef) (a' := ?_) #[true, true, true, true, false, false, false, false, false, false, false] rfl rfl (by kernel_rfl) (fun _ _ _ h => h) (Or.inr ⟨by rfl, rfl⟩) ?_ ?_
            rotate_left
            · simp only [Act.put, List.setIfInBounds_toArray, List.set_cons_zero, List.set_cons_succ, i64_w, i32_w]
              rfl
            refine pure_ (i := 4) (N := some 101) (v := undef) (a' := ?_) #[true, true, true, true, true, false, false, false, false, false, false] rfl rfl (by kernel_rfl) (fun _ _ _ h => h) (Or.inr ⟨by rfl, rfl⟩) ?_ ?_
            rotate_left
            · simp only [Act.put, List.setIfInBounds_toArray, List.set_cons_zero, List.set_cons_succ, i64_w, i32_w]
              rfl
            refine pure_ (i := 5) (N := some 102) (v := undef) (a' := ?_) #[true, true, true, true, true, true, false, false, false, false, false] rfl rfl (by kernel_rfl) (fun _ _ _ h => h) (Or.inr ⟨by rfl, rfl⟩) ?_ ?_
            rotate_left
            · simp only [Act.put, List.setIfInBounds_toArray, List.set_cons_zero, List.set_cons_succ, i64_w, i32_w]
              rfl
            refine pure_ (i := 6) (N := some 103) (v := undef) (a' := ?_) #[true, true, true, true, true, true, true, false, false, false, false] rfl rfl (by kernel_rfl) (fun _ _ _ h => h) (Or.inr ⟨by rfl, rfl⟩) ?_ ?_
            rotate_left
            · simp only [Act.put, List.setIfInBounds_toArray, List.set_cons_zero, List.set_cons_succ, i64_w, i32_w]
              rfl
            refine pure_ (i := 7) (N := some 104) (v := undef) (a' := ?_) #[true, true, true, true, true, true, true, true, false, false, false] rfl rfl (by kernel_rfl) (fun _ _ _ h => h) (Or.inr ⟨by rfl, rfl⟩) ?_ ?_
            rotate_left
            · simp only [Act.put, List.setIfInBounds_toArray, List.set_cons_zero, List.set_cons_succ, i64_w, i32_w]
              rfl
            refine pure_ (i := 8) (N := some 105) (v := undef) (a' := ?_) #[true, true, true, true, true, true, true, true, true, false, false] rfl rfl (by kernel_rfl) (fun _ _ _ h => h) (Or.inr ⟨by rfl, rfl⟩) ?_ ?_
            rotate_left
            · simp only [Act.put, List.setIfInBounds_toArray, List.set_cons_zero, List.set_cons_succ, i64_w, i32_w]
              rfl
            refine pure_ (i := 9) (N := some 106) (v := undef) (a' := ?_) #[true, true, true, true, true, true, true, true, true, true, false] rfl rfl (by kernel_rfl) (fun _ _ _ h => h) (Or.inr ⟨by rfl, rfl⟩) ?_ ?_
            rotate_left
            · simp only [Act.put, List.setIfInBounds_toArray, List.set_cons_zero, List.set_cons_succ, i64_w, i32_w]
              rfl
            refine pure_ (i := 10) (N := some 107) (v := ?_) (a' := ?_) #[true, true, true, true, true, true, true, true, true, true, true] rfl rfl (by kernel_rfl) (fun _ _ _ h => h) (Or.inl ⟨by rfl, ?_⟩) ?_ ?_
            rotate_left
            · intro w'
              go_simp
              with_reducible rfl
            rotate_left
            · simp only [Act.put, List.setIfInBounds_toArray, List.set_cons_zero, List.set_cons_succ, i64_w, i32_w]
              rfl
            refine done_ (by kernel_rfl) ?_
            have HQ6 := Aside0.mk (HQ5.out.step (below_drew1 (Below.refl w5.heap.size w5)))
            generalize w5.drew = w6 at *
            clear HQ5 HCE hHeld
            have r0_ := HQ6.out.res.cell 0 _ rfl
            have r1_ := HQ6.out.res.cell 1 _ rfl
            have r2_ := HQ6.out.res.cell 2 _ rfl
            have g0_ := HQ6.out.res.free 0
            have g1_ := HQ6.out.res.free 1
            have g2_ := HQ6.out.res.free 2
            go_wp2
            exact bodyPost_ret (results_ctt (P := Try.prog) (fn := Try.f17) rfl _ _ w.heap.size 26 #[.int .u64 0, .slice none 0 0, .slice none 0 0] (0, 0) _ rfl (blk3 HQ6.out.res _ _ _) Try.underlying26 rfl (by kernel_rfl)) rfl ⟨.slice none 0 0, .slice none 0 0, rfl, Kd.S_nil _ _ _ _ _, Kd.R_nil _ _ _ _ _, below3 HQ6.out.bl _ _ _⟩
end Go.Proofs.Ytpihpabofgmahaa.U
