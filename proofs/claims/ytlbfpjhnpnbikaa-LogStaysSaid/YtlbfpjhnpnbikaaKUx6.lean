/- Ux6: what this claim uses. Laid by slim.py (ours). -/
import Derived.Test.YtlbfpjhnpnbikaaKUx0
import Derived.Test.YtlbfpjhnpnbikaaKUx5
namespace Go.Proofs.Ytlbfpjhnpnbikaa.U
open Go.RowKit Go.Proofs.YtlbfpjhnpnbikaaW.PrintWords Go.Proofs.YtlbfpjhnpnbikaaW.PrintLast Go.Proofs.YtlbfpjhnpnbikaaW.PrintMore
attribute [local go_sem] max2_int min2_int max_two min_two max_three min_three max_four min_four
set_option linter.unusedVariables false
set_option linter.unusedSimpArgs false
def IsTable (cs : Array Value) : Prop := cs.size = 256 ∧ ∀ i, i < 256 → cs[i]? = some (.int .u32 ((X.stepN 8 (BitVec.ofNat 32 i)).toNat : Int))
def FillPost (g : Nat) (t : TypeId) (B : Nat) (w : World) (w' : World) : Prop := ∃ cs, X.Blk w' g cs t ∧ IsTable cs ∧ Below B w w'
theorem fill_start (k : Nat) (hk : k < 256) : (k : Int) = ((X.stepN 0 (BitVec.ofNat 32 k)).toNat : Int) := by
  show (k : Int) = ((BitVec.ofNat 32 k).toNat : Int)
  rw [BitVec.toNat_ofNat]; omega
set_option maxHeartbeats 800000 in
set_option maxRecDepth 100000 in
theorem fill_calls (g : Nat) (t : TypeId) (B : Nat) (w : World) (cs : Array Value) (hb : X.Blk w g cs t) (hs : cs.size = 256) (hB : B ≤ g) :
    Calls Try.prog 88 #[.pointer (some ⟨g, 0, none⟩)] w fun e w' => e = .returned (.tuple #[]) ∧ FillPost g t B w w' := by
  have HB := Aside0.mk hb
  have HS := Aside0.mk hs
  have HBg := Aside0.mk hB
  clear hb hs hB
  go_enter Try.func88, Try.ntmps88
  go_wp2_with fail
  go_loopg [4] 256 (fun kq v4 w' => ∃ (k : Nat) (cs' : Array Value), v4 = .int .i64 (k : Int) ∧ Aside0 (kq + k = 256) ∧ Aside0 (X.Blk w' g cs' t) ∧ Aside0 (cs'.size = 256) ∧ Aside0 (∀ i, i < k → cs'[i]? = some (.int .u32 ((X.stepN 8 (BitVec.ofNat 32 i)).toNat : Int))) ∧ Aside0 (Below B w w'))
  case atStart => exact ⟨0, cs, rfl, ⟨rfl⟩, HB, HS, ⟨fun i hi => absurd hi (Nat.not_lt_zero i)⟩, ⟨Below.refl _ _⟩⟩
  case round =>
    obtain ⟨k, cs', rfl, HK, HC, HCS, HT, HBL⟩ := hrel
    have hk : k ≤ 256 := by have := HK.out; omega
    by_cases hlt : k < 256
    · obtain ⟨wo, rfl⟩ : ∃ wo : World, wo = wr := ⟨_, rfl⟩
      go_wp2_with fail
      go_loop [3, 9] (fun v3 v9 => ∃ j : Nat, j ≤ 8 ∧ v9 = .int .i64 (j : Int) ∧ v3 = .int .u32 ((X.stepN j (BitVec.ofNat 32 k)).toNat : Int)) (fun _ v9 => 8 - (intOf v9).toNat)
      case atStart => exact ⟨0, by omega, rfl, congrArg (Value.int .u32) (fill_start k hlt)⟩
      case round =>
        obtain ⟨j, hj, rfl, rfl⟩ := hrel
        by_cases hj8 : j < 8
        · have e1 := X.step_crc (X.stepN j (BitVec.ofNat 32 k))
          have e2 : X.stepV (X.stepN j (BitVec.ofNat 32 k)) = X.stepN (j + 1) (BitVec.ofNat 32 k) := (X.stepN_add j 1 _).symm
          rw [e2] at e1
          clear e2
          generalize X.stepN j (BitVec.ofNat 32 k) = v at *
          obtain ⟨v1, hv1⟩ : ∃ v1, v1 = X.stepN (j + 1) (BitVec.ofNat 32 k) := ⟨_, rfl⟩
          rw [← hv1] at e1
          have HV1 := Aside0.mk hv1
          clear hv1
          go_wp2
          go_round
          case rel => exact ⟨j + 1, by omega, by go_num, by rw [← HV1.out]⟩
          case measure => simp [intOf]; omega
        · have hj' : 8 ≤ j := by omega
          have e8 : X.stepN j (BitVec.ofNat 32 k) = X.stepN 8 (BitVec.ofNat 32 k) := by rw [show j = 8 from by omega]
          obtain ⟨v, hv⟩ : ∃ v, v = X.stepN 8 (BitVec.ofNat 32 k) := ⟨_, rfl⟩
          rw [e8, ← hv]
          have HV := Aside0.mk hv
          clear e8 hv
          obtain ⟨old, hc⟩ : ∃ old, wo.cell? ⟨g, k, none⟩ = some old := ⟨_, HC.out.cell k _ (Array.getElem?_eq_getElem (by have := HCS.out; omega))⟩
          have hf := HC.out.free k
          go_wp2
          cases gk with
          | zero => exact absurd HK.out (by omega)
          | succ k1 =>
          go_roundg k1
          case measure => omega
          case rel =>
            refine ⟨k + 1, cs'.setIfInBounds k (.int .u32 (v.toNat : Int)), by go_num, ⟨by have := HK.out; omega⟩, ⟨HC.out.set k _⟩, ⟨by rw [Array.size_setIfInBounds]; exact HCS.out⟩, ⟨fun i hi => ?_⟩, ⟨HBL.out.setCell HBg.out _⟩⟩
            by_cases hik : i = k
            · subst hik
              rw [Array.getElem?_setIfInBounds_self_of_lt (by have := HCS.out; omega), HV.out]
            · rw [Array.getElem?_setIfInBounds_ne (by omega)]
              exact HT.out i (by omega)
    · have hk' : k = 256 := by omega
      have HT' : Aside0 (IsTable cs') := ⟨HCS.out, fun i hi => HT.out i (by omega)⟩
      go_wp2
      go_end0
      exact ⟨rfl, _, HC.out, HT'.out, HBL.out⟩
def crc_More.f (a0 : Int) (l1 : List Int) : Option Int := if X.u8all l1 = true then some (X.crcMore a0 l1) else none
theorem nibble_tells (x : BitVec 32) : crc_nibble.f 5 (x.toNat : Int) = some ((X.stepN 4 x).toNat : Int) := by
  unfold crc_nibble.f
  rw [crc_nibble.l0, if_pos (by decide), X.step_crc, show wrap64 (0 + 1) = 1 from by unfold wrap64; omega, crc_nibble.l0, if_pos (by decide), X.step_crc, show wrap64 (1 + 1) = 2 from by unfold wrap64; omega, crc_nibble.l0, if_pos (by decide), X.step_crc, show wrap64 (2 + 1) = 3 from by unfold wrap64; omega, crc_nibble.l0, if_pos (by decide), X.step_crc, show wrap64 (3 + 1) = 4 from by unfold wrap64; omega, crc_nibble.l0, if_neg (by decide)]
  rfl
attribute [local go_sem high] X.unary_not_u32
set_option maxHeartbeats 800000 in
set_option maxRecDepth 100000 in
theorem more_small (a0 : Int) (A1 : Option Addr) (c1 : Nat) (l1 : List Int) (w : World) (hr1 : Kd.C (Kd.int .u8) w A1 l1.length l1) (hu : X.u8all l1 = true) (hs : l1.length < 512) :
    Calls Try.prog 81 #[.int .u32 a0, .slice A1 l1.length c1] w fun e w' => e = .returned (.int .u32 (X.crcMore a0 l1)) ∧ Drawn0 w w' := by
  have HR := Aside0.mk hr1
  have HU := Aside0.mk hu
  have hs1 : decide (l1.length < 512) = true := decide_eq_true hs
  have hs2 : decide ((l1.length : Int) < 512) = true := decide_eq_true (by omega)
  clear hr1 hu
  have hn := X.not_word a0
  have HG : X.crcMore a0 l1 = X.notN (X.regV (~~~ (BitVec.ofInt 32 a0)) l1) := rfl
  rw [HG]
  clear HG
  generalize ~~~ (BitVec.ofInt 32 a0) = s0 at *
  go_enter Try.func81, Try.ntmps81
  go_wp2_with fail
  go_loopg [5, 18] l1.length (fun kq v5 v18 w' => ∃ (i : Nat) (v : BitVec 32), v5 = .int .u32 (v.toNat : Int) ∧ v18 = .int .i64 (i : Int) ∧ Aside0 (kq + i = l1.length) ∧ Aside0 (v = X.regV s0 (l1.take i)) ∧ Drawn0 w w')
  case atStart => exact ⟨0, s0, rfl, rfl, ⟨rfl⟩, ⟨rfl⟩, Drawn0.refl _⟩
  case round =>
    obtain ⟨i, v, rfl, rfl, HK, HV, ⟨m1, rfl⟩⟩ := hrel
    have hi : i ≤ l1.length := by have := HK.out; omega
    by_cases hlt : i < l1.length
    · have hb := X.u8all_at HU.out i hlt
      have HN := Aside0.mk (X.regV_snoc s0 l1 i hlt)
      obtain ⟨ad, e, hx⟩ := Kd.at_int HR.out (i : Int) (by omega) (by omega)
      subst e
      have hrd : rd l1 (i : Int) = l1.getD i 0 := by unfold rd; rw [Int.toNat_natCast]
      rw [hrd, Int.toNat_natCast] at hx
      clear hrd
      generalize l1.getD i 0 = c at *
      obtain ⟨hb0, hb1⟩ := hb
      have g1 := X.xor_byte v c
      have HH := Aside0.mk (X.byteV_halves v c)
      rw [← HV.out] at HN
      generalize v ^^^ BitVec.ofInt 32 c = p at *
      have g2 := X.and_15 p
      have g3 := X.xor_div16 p (X.stepN 4 (p &&& 15#32))
      have C1 := Aside0.mk (nibble_tells (p &&& 15#32))
      generalize X.stepN 4 (p &&& 15#32) = n1 at *
      generalize p &&& 15#32 = p1 at *
      generalize p >>> 4 ^^^ n1 = q at *
      have g4 := X.and_15 q
      have g5 := X.xor_div16 q (X.stepN 4 (q &&& 15#32))
      have C2 := Aside0.mk (nibble_tells (q &&& 15#32))
      generalize X.stepN 4 (q &&& 15#32) = n2 at *
      generalize q &&& 15#32 = q1 at *
      generalize q >>> 4 ^^^ n2 = z at *
      have HZ : Aside0 (z = X.regV s0 (l1.take (i + 1))) := ⟨by rw [HN.out, HH.out]⟩
      clear HH HN
      go_wp2_with (fail)
      refine (crc_nibble.calls 5 _ _ _ C1.out).mono ?_
      rintro e w' ⟨rfl, ⟨m2, rfl⟩⟩
      go_wp2_with (fail)
      refine (crc_nibble.calls 5 _ _ _ C2.out).mono ?_
      rintro e w' ⟨rfl, ⟨m3, rfl⟩⟩
      go_wp2_with (fail)
      cases gk with
      | zero => exact absurd HK.out (by omega)
      | succ k1 =>
      go_roundg k1
      case measure => omega
      case rel => exact ⟨i + 1, z, by first | rfl | simp, by go_num, ⟨by have := HK.out; omega⟩, HZ, by repeat (first | exact Drawn0.refl _ | apply Drawn0.step)⟩
    · have HE : Aside0 (X.regV s0 l1 = v) := ⟨by rw [HV.out, List.take_of_length_le (by omega)]⟩
      have g1 := X.not_word (v.toNat : Int)
      rw [X.ofInt_toNat32] at g1
      have HE2 : Aside0 (X.notN (X.regV s0 l1) = ((~~~ v).toNat : Int)) := ⟨by rw [HE.out]; rfl⟩
      generalize ~~~ v = vn at *
      go_wp2
      go_ret
      exact ⟨by rw [HE2.out]; rfl, by repeat (first | exact Drawn0.refl _ | apply Drawn0.step)⟩
def zTab : Array Value := Array.replicate 256 (.int .u32 0)
theorem zTab_run (w : World) : (zeroValue 125).run Try.prog w = .ok (.agg zTab) w := by kernel_rfl
theorem zTab_size : zTab.size = 256 := by kernel_rfl
set_option maxHeartbeats 800000 in
set_option maxRecDepth 100000 in
theorem more_big (a0 : Int) (A1 : Option Addr) (c1 : Nat) (l1 : List Int) (w : World) (hr1 : Kd.C (Kd.int .u8) w A1 l1.length l1) (hu : X.u8all l1 = true) (hs : ¬ l1.length < 512) :
    Calls Try.prog 81 #[.int .u32 a0, .slice A1 l1.length c1] w fun e w' => e = .returned (.int .u32 (X.crcMore a0 l1)) ∧ Below w.heap.size w w' := by
  have HR := Aside0.mk hr1
  have HU := Aside0.mk hu
  have hs1 : decide (l1.length < 512) = false := decide_eq_false hs
  have hs2 : decide ((l1.length : Int) < 512) = false := decide_eq_false (by omega)
  clear hr1 hu
  have hn := X.not_word a0
  have HG : X.crcMore a0 l1 = X.notN (X.regV (~~~ (BitVec.ofInt 32 a0)) l1) := rfl
  rw [HG]
  clear HG
  generalize ~~~ (BitVec.ofInt 32 a0) = s0 at *
  have hzt := zTab_run
  go_enter Try.func81, Try.ntmps81
  go_wp2_with fail
  refine (fill_calls w.heap.size 125 w.heap.size _ _ (X.Blk.new w zTab 125) zTab_size (Nat.le_refl _)).mono ?_
  rintro e w1 ⟨rfl, cs, hB1, hT, hBe⟩
  have HBe := Aside0.mk ((Below.refl w.heap.size w).alloc (Nat.le_refl _) (.cells zTab 125 (0, 0)) |>.trans hBe)
  have HB1 := Aside0.mk hB1
  have HT := Aside0.mk hT
  clear hB1 hT hBe
  go_wp2_with fail
  have HR1 : Aside0 (Kd.C (Kd.int .u8) w1 A1 l1.length l1) := ⟨Kd.C_below HR.out HBe.out⟩
  have hmx := Kd.C_max HR1.out
  clear HR
  go_loop [5, 44] (fun v5 v44 => ∃ (i : Nat) (v : BitVec 32), i ≤ l1.length ∧ v5 = .int .u32 (v.toNat : Int) ∧ v44 = .int .i64 (i : Int) ∧ Aside0 (v = X.regV s0 (l1.take i))) (fun _ v44 => l1.length - (intOf v44).toNat)
  case atStart => exact ⟨0, s0, Nat.zero_le _, rfl, rfl, ⟨rfl⟩⟩
  case round =>
    obtain ⟨i, v, hi, rfl, rfl, HV⟩ := hrel
    by_cases hlt : i < l1.length
    · have hb := X.u8all_at HU.out i hlt
      have HN := Aside0.mk (X.regV_snoc s0 l1 i hlt)
      obtain ⟨ad, e, hx⟩ := Kd.at_int HR1.out (i : Int) (by omega) (by omega)
      subst e
      have hrd : rd l1 (i : Int) = l1.getD i 0 := by unfold rd; rw [Int.toNat_natCast]
      rw [hrd, Int.toNat_natCast] at hx
      clear hrd
      generalize l1.getD i 0 = c at *
      obtain ⟨hb0, hb1⟩ := hb
      have g1 := X.table_place v c hb0 hb1
      have HH := Aside0.mk (X.byteV_table v c)
      have HS := Aside0.mk (X.shift_byte v c hb0 hb1)
      rw [← HV.out] at HN
      have hp : ((v ^^^ BitVec.ofInt 32 c) &&& 255#32).toNat < 256 := by rw [BitVec.toNat_and]; exact Nat.lt_of_le_of_lt Nat.and_le_right (by decide)
      generalize (v ^^^ BitVec.ofInt 32 c) &&& 255#32 = p at *
      have ht := HT.out.2 p.toNat hp
      rw [show BitVec.ofNat 32 p.toNat = p from by simp] at ht
      have hc := HB1.out.cell p.toNat _ ht
      clear ht
      have g2 := X.xor_div256 v (X.stepN 8 p)
      have HZ : Aside0 (v >>> 8 ^^^ X.stepN 8 p = X.regV s0 (l1.take (i + 1))) := ⟨by rw [HN.out, HH.out, HS.out]⟩
      clear HH HN HS
      generalize v >>> 8 ^^^ X.stepN 8 p = z at *
      generalize X.stepN 8 p = tp at *
      generalize p.toNat = pn at *
      go_wp2
      go_round
      case rel => exact ⟨i + 1, z, by omega, by first | rfl | simp, by go_num, HZ⟩
      case measure => simp [intOf]; omega
    · have HE : Aside0 (X.regV s0 l1 = v) := ⟨by rw [HV.out, List.take_of_length_le (by omega)]⟩
      have g1 := X.not_word (v.toNat : Int)
      rw [X.ofInt_toNat32] at g1
      have HE2 : Aside0 (X.notN (X.regV s0 l1) = ((~~~ v).toNat : Int)) := ⟨by rw [HE.out]; rfl⟩
      generalize ~~~ v = vn at *
      go_wp2
      go_ret
      exact ⟨by rw [HE2.out]; rfl, HBe.out⟩
theorem crc_More.calls (a0 : Int) (A1 : Option Addr) (c1 : Nat) (l1 : List Int) (r : Int) (w : World) (hr1 : Kd.C (Kd.int .u8) w A1 l1.length l1) (hc1 : l1.length ≤ c1) (h : crc_More.f a0 l1 = some r) :
    Calls Try.prog 81 #[.int .u32 a0, .slice A1 l1.length c1] w fun e w' => e = .returned (.int .u32 r) ∧ Below w.heap.size w w' := by
  unfold crc_More.f at h
  by_cases hu : X.u8all l1 = true
  · rw [if_pos hu] at h
    obtain rfl := Option.some.inj h
    by_cases hs : l1.length < 512
    · exact (more_small a0 A1 c1 l1 w hr1 hu hs).mono fun e w' ⟨he, hd⟩ => ⟨he, hd.below⟩
    · exact more_big a0 A1 c1 l1 w hr1 hu hs
  · rw [if_neg hu] at h
    exact absurd h (by simp)
def crc_Sum.f (l0 : List Int) : Option (Int) := (crc_More.f 0 l0).bind fun t106 => (some t106)
set_option maxHeartbeats 8000000 in
set_option maxRecDepth 100000 in
theorem crc_Sum.calls (A0 : Option Addr) (c0 : Nat) (l0 : List Int) (r : Int) (w : World) (hr0 : Kd.C (Kd.int .u8) w A0 l0.length l0) (hc0 : l0.length ≤ c0) (h : crc_Sum.f l0 = some r) :
    Calls Try.prog 63 #[.slice A0 l0.length c0] w fun e w' => e = .returned (.int .u32 r) ∧ Below w.heap.size w w' := by
  have HR0 := Aside0.mk hr0
  have HC0 := Aside0.mk hc0
  clear hr0 hc0
  have HB := Aside0.mk (Below.refl w.heap.size w)
  have H : ((crc_More.f 0 l0).bind fun t106 => (some t106)) = some r := h
  clear h
  replace H := Option.bind_eq_some_iff.mp H
  obtain ⟨t106, A20, H⟩ := H
  replace H : (some t106) = some r := H
  have A2 := Aside0.mk A20
  clear A20
  obtain rfl := Option.some.inj H
  go_enter Try.func63, Try.ntmps63
  go_wp2_with (first | ((with_reducible refine gate_callee (f := 81) rfl ?_); refine goesL_ (some 4) rfl rfl Try.func81 (by kernel_rfl) rfl #[.int .u32 0, .slice A0 l0.length c0] rfl (by (try simp only [List.map_toArray, List.map_cons, List.map_nil]); first | done | rfl | (simp only [List.length_drop, List.length_take]; rfl)) ?_; (with_reducible refine (crc_More.calls 0 _ _ l0 t106 _ ?side1 ?side2 A2.out).mono ?_); (case side1 => repeat (first | exact HR0.out | (with_reducible refine Kd.C_alloc ?_ _) | (with_reducible refine Kd.C_drewN ?_ _) | (with_reducible refine Kd.C_drew ?_))); (case side2 => exact HC0.out); rintro e w3 ⟨rfl, hb⟩; refine ⟨_, rfl, ?_⟩; have n0_ := Aside0.mk (below_step (by repeat (first | (with_reducible first | exact HB.out | apply below_alloc | apply pw_below_drewN | apply below_drew1) | exact HB.out)) hb); clear HB; have HB := n0_; clear n0_; (try clear hb); (try clear hb2); (try clear hk); (try clear hi)))
  go_ret
  exact ⟨by first | rfl | (simp [errW_none, errW_some] <;> rfl) | (simp [*, errW_none, errW_some] <;> rfl), by repeat (first | (with_reducible first | exact HB.out | apply below_alloc | apply pw_below_drewN | apply below_drew1) | exact HB.out)⟩
end Go.Proofs.Ytlbfpjhnpnbikaa.U
